/- Layers 13 and 15 by plans: what a sound configuration holds; conf.Thrust, accel.New, accel.In. -/
import Derived.Test.YtikajapjkdloaaaGreatDoor917
namespace Go.Proofs.YtikajapjkdloaaaGreatDoor
set_option linter.unusedVariables false
set_option linter.unusedSimpArgs false
set_option maxRecDepth 1000000
set_option maxHeartbeats 8000000
open Go.RowKit
theorem Pu{c:Nat->Int}: ∀{n k:Nat},1<=k->Eu c n k=0-> ∀j,k<=j->j<k+n->BS c j=true:=by
 intro n
 induction n with
 |zero=>intro k _ _ j h1 h2;omega
 |succ n ih=>
  intro k hk h j h1 h2
  unfold Eu at h
  split at h
  ·rename_i hr
   rcases Nat.lt_or_eq_of_le h1 with q|q
   ·exact ih (k:=k+1) en h j q en
   rw[<-q];exact hr
  omega
theorem Io{c:Nat->Int}(h:Ct c=0)(j:Nat)(h1:1<=j)(h2:j<=14):BS c j=true:=Pu (n:=14) (k:=1) en h j h1 en
theorem Ri{c:Nat->Int}(h:Ct c=0):1<=c 24/\c 24<=1099511627776:=by
 have a:=Io h 10 eo eo
 simp only[BS,Cd,decide_eq_true_eq]at a;exact a
theorem He{c:Nat->Int}(h:Ct c=0):(1<=c 26/\c 26<=131072)/\ -c 26<c 25/\c 25<c 26:=by
 have a:=Io h 11 eo eo
 simp only[BS,Cd,Bool.and_eq_true,decide_eq_true_eq]at a;exact a
theorem Qx{c:Nat->Int}(h:Ct c=0):(1<=c 28/\c 28<=c 29)/\c 29<=100000:=by
 have a:=Io h 13 eo eo
 simp only[BS,Cd,Bool.and_eq_true,decide_eq_true_eq]at a;exact a
def AU(c:Nat->Int)(n:Int):Bool:=decide (n<= -c 26)||decide (n>=c 26)
def FC(c:Nat->Int)(n:Int):Int:=(n-c 25)*c 24
theorem In{c:Nat->Int}{n:Int}(h:AU c n=false):decide (n<= -c 26)=false/\decide (n>=c 26)=false:=by
 unfold AU at h;simpa only[Bool.or_eq_false_iff]using h
theorem QY{c:Nat->Int}{n:Int}(h:AU c n=true)(h1:decide (n<= -c 26)=false):decide (n>=c 26)=true:=by
 unfold AU at h;rw[h1,Bool.false_or]at h;exact h
theorem RA{c:Nat->Int}{n:Int}(h:Ct c=0)(hq:AU c n=false): -288230376151711744<=FC c n/\FC c n<=288230376151711744:=by
 obtain⟨⟨c1,c2⟩,c3,c4⟩:=He h
 obtain⟨s1,s2⟩:=Ri h
 obtain⟨q1,q2⟩:=In hq
 simp only[decide_eq_false_iff_not]at q1 q2
 unfold FC
 have a1: -262144<=n-c 25:=by omega
 have a2:n-c 25<=262144:=by omega
 have b1:=Int.mul_le_mul_of_nonneg_right a1 (show(0:Int)<=c 24 by omega)
 have b2:=Int.mul_le_mul_of_nonneg_right a2 (show(0:Int)<=c 24 by omega)
 generalize(n-c 25)*c 24=z at*
 omega
theorem TD{c:Nat->Int}{n:Int}(h:Ct c=0)(hq:AU c n=false):Ai (FC c n):=by
 have:=RA h hq;unfold Ai;omega
abbrev cL(c:Nat->Int):List Value:=[.int .i64 (c 0),.int .i64 (c 1),.int .i64 (c 2),.int .i64 (c 3),.int .i64 (c 4),.int .i64 (c 5),.int .i64 (c 6),.int .i64 (c 7),.int .i64 (c 8),.int .i64 (c 9),.int .i64 (c 10),.int .i64 (c 11),.int .i64 (c 12),.int .i64 (c 13),.int .i64 (c 14),.int .i64 (c 15),.int .i64 (c 16),.int .i64 (c 17),.int .i64 (c 18),.int .i64 (c 19),.int .i64 (c 20),.int .i64 (c 21),.int .i64 (c 22),.int .i64 (c 23),.int .i64 (c 24),.int .i64 (c 25),.int .i64 (c 26),.int .i64 (c 27),.int .i64 (c 28),.int .i64 (c 29),.int .i64 (c 30)]
abbrev cA(c:Nat->Int):Value:=.agg #[.int .i64 (c 0),.int .i64 (c 1),.int .i64 (c 2),.int .i64 (c 3),.int .i64 (c 4),.int .i64 (c 5),.int .i64 (c 6),.int .i64 (c 7),.int .i64 (c 8),.int .i64 (c 9),.int .i64 (c 10),.int .i64 (c 11),.int .i64 (c 12),.int .i64 (c 13),.int .i64 (c 14),.int .i64 (c 15),.int .i64 (c 16),.int .i64 (c 17),.int .i64 (c 18),.int .i64 (c 19),.int .i64 (c 20),.int .i64 (c 21),.int .i64 (c 22),.int .i64 (c 23),.int .i64 (c 24),.int .i64 (c 25),.int .i64 (c 26),.int .i64 (c 27),.int .i64 (c 28),.int .i64 (c 29),.int .i64 (c 30)]
theorem Dz(c:Nat->Int)(hc: ∀i,Ai (c i))(h:Ct c=0)(w:World):Calls Tryz.prog 11 #[cA c] w λe w'=>e=.returned (.int .i64 0)/\Below w.heap.size w w':=by
 have k:=Du c hc w;rw[h]at k;exact k
theorem J4(c:Nat->Int)(n:Int)(hc: ∀i,Ai (c i))(hk:Ct c=0)(hq:AU c n=true)(w:World):Calls Tryz.prog 91 #[(cA c),.int .i64 n] w (λe w'=>e=.returned (.tuple #[.int .i64 0,.int .i64 2])/\Below w.heap.size w w'):=by
 exact(let B:Base:=(⟨w,λ_=>False⟩:Base);let R:Ending->World->Prop:=(λe w'=>e=.returned (.tuple #[.int .i64 0,.int .i64 2])/\Below w.heap.size w w');AC (f:=91) (B:=B) (R:=R) (es:=[]) (c:=Tryz.f91.body.getD .skip) (tmps:=#[(cA c),.int .i64 n,undef,undef,undef,undef,undef,undef,undef,undef,undef,undef,undef,undef,undef,undef,undef,undef,undef,undef,undef,undef,undef,undef,undef,undef,undef,undef,undef])
  (.s [.c,.c] (.new (λr1=>.s [.v,.v,.c,.c,.c,.c,.c,.own 0,.call (.int .i64 0),.v,.v,.c,.c,.c,.c,.v,.v,.own 0,.v,.setv 14 (.int .i64 (-c 26)),.v,.v] (.split 16 (.s [.u,.u,.u,.u,.v,.v,.c,.c,.c,.c,.v,.v,.c] (.ret [])) (.s [.v,.v,.own 0,.v,.v,.v,.c,.setv 10 (.bool true),.c,.c,.c,.v,.v,.c] (.ret []))))))
  el (Sx.refl w _) ExX.nil Tryz.func91 el el (Eq.mp el (λ(r1:Nat)=>let bs2:AD:=[(r1,(cL c))];let rs3:Aw:=[(0,25,31)];aI (Eq.refl r1) (aI (cv B bs2 [] rs3 [] ((λW hS=>Dz c hc hk W))) (aI (Eq.refl r1) (aI (show Value.int .i64 (IntKind.i64.wrap (0-(c 26)))=.int .i64 (-c 26)from congrArg (Value.int .i64) (show IntKind.i64.wrap (0-(c 26))= -c 26 from by have:=He hk;rw[BE en];omega)) (And.intro (λ(h4:(decide (n<=(-c 26)))=true)=>have h4p:n<=(-c 26):=(by simpa using h4);aI trivial ((show AO B R bs2 [] rs3 [] (.tuple #[.int .i64 0,.int .i64 2])from by
     exactλW hS=>⟨rfl,hS.bl⟩))) (λ(h5:(decide (n<=(-c 26)))=false)=>have h5p: ¬(n<=(-c 26)):=(by simpa using h5);have HN:decide (n<= -c 26)=false:=h5;aI (Eq.refl r1) (aI (show Value.bool (decide (n>=(c 26)))=.bool true from congrArg Value.bool (QY hq HN)) (aI trivial ((show AO B R bs2 [] rs3 [] (.tuple #[.int .i64 0,.int .i64 2])from by
     exactλW hS=>⟨rfl,hS.bl⟩))))))))))))
theorem KB(c:Nat->Int)(n:Int)(hc: ∀i,Ai (c i))(hk:Ct c=0)(hq:AU c n=false)(w:World):Calls Tryz.prog 91 #[(cA c),.int .i64 n] w (λe w'=>e=.returned (.tuple #[.int .i64 (FC c n),.int .i64 0])/\Below w.heap.size w w'):=by
 exact(let B:Base:=(⟨w,λ_=>False⟩:Base);let R:Ending->World->Prop:=(λe w'=>e=.returned (.tuple #[.int .i64 (FC c n),.int .i64 0])/\Below w.heap.size w w');AC (f:=91) (B:=B) (R:=R) (es:=[]) (c:=Tryz.f91.body.getD .skip) (tmps:=#[(cA c),.int .i64 n,undef,undef,undef,undef,undef,undef,undef,undef,undef,undef,undef,undef,undef,undef,undef,undef,undef,undef,undef,undef,undef,undef,undef,undef,undef,undef,undef])
  (.s [.c,.c] (.new (λr1=>.s [.v,.v,.c,.c,.c,.c,.c,.own 0,.call (.int .i64 0),.v,.v,.c,.c,.c,.c,.v,.v,.own 0,.v,.setv 14 (.int .i64 (-c 26)),.v,.v,.setv 16 (.bool false),.v,.v,.own 0,.v,.v,.v,.c,.setv 10 (.bool false),.c,.c,.c,.c,.c,.v,.v,.own 0,.v,.setv 25 (.int .i64 (n-c 25)),.v,.own 0,.v,.setv 28 (.int .i64 (FC c n)),.v,.v,.c] (.ret []))))
  el (Sx.refl w _) ExX.nil Tryz.func91 el el (Eq.mp el (λ(r1:Nat)=>let bs2:AD:=[(r1,(cL c))];let rs3:Aw:=[(0,25,31)];aI (Eq.refl r1) (aI (cv B bs2 [] rs3 [] ((λW hS=>Dz c hc hk W))) (aI (Eq.refl r1) (aI (show Value.int .i64 (IntKind.i64.wrap (0-(c 26)))=.int .i64 (-c 26)from congrArg (Value.int .i64) (show IntKind.i64.wrap (0-(c 26))= -c 26 from by have:=He hk;rw[BE en];omega)) (aI (show Value.bool (decide (n<=(-c 26)))=.bool false from congrArg Value.bool (In hq).1) (aI (Eq.refl r1) (aI (show Value.bool (decide (n>=(c 26)))=.bool false from congrArg Value.bool (In hq).2) (aI (Eq.refl r1) (aI (show Value.int .i64 (IntKind.i64.wrap (n-(c 25)))=.int .i64 (n-c 25)from congrArg (Value.int .i64) (BE (by have:=He hk;have:=In hq;simp only[decide_eq_false_iff_not]at this;omega))) (aI (Eq.refl r1) (aI (show Value.int .i64 (IntKind.i64.wrap ((n-c 25)*(c 24)))=.int .i64 (FC c n)from congrArg (Value.int .i64) (show IntKind.i64.wrap ((n-c 25)*(c 24))=FC c n from BE (by have:=RA hk hq;unfold FC at this;omega))) (aI trivial ((show AO B R bs2 [] rs3 [] (.tuple #[.int .i64 (FC c n),.int .i64 0])from by
     exactλW hS=>⟨rfl,hS.bl⟩))))))))))))))))
theorem PC(f:Nat)(la ru:Int)(c:Nat->Int)(n:Int)(hc: ∀i,Ai (c i))(hk:Ct c=0)(hq:AU c n=true)(hru:0<=ru/\ru<=1000000)(w:World)(hS0:Sx (AH w [(f,(AG la ru c))] []) w [(f,(AG la ru c))] [] [] []):Calls Tryz.prog 33 #[.pointer (some ⟨f,0,none⟩),.int .i64 n] w (λe w'=> ∃ρ:Nat->Nat,e=.returned (.tuple #[.int .i64 la,.bool true,.bool (decide (ru+1>c 27))])/\Sx (AH w [(f,(AG la ru c))] []) w' [(f,(AG la (ru+1) c))] [] [] []):=by
 exact(let B:Base:=(AH w [(f,(AG la ru c))] []);let R:Ending->World->Prop:=(λe w'=> ∃ρ:Nat->Nat,e=.returned (.tuple #[.int .i64 la,.bool true,.bool (decide (ru+1>c 27))])/\Sx (AH w [(f,(AG la ru c))] []) w' [(f,(AG la (ru+1) c))] [] [] []);AC (f:=33) (B:=B) (R:=R) (es:=[]) (c:=Tryz.f33.body.getD .skip) (tmps:=#[.pointer (some ⟨f,0,none⟩),.int .i64 n,undef,undef,undef,undef,undef,undef,undef,undef,undef,undef,undef,undef,undef,undef,undef,undef,undef,undef,undef,undef,undef,undef,undef,undef,undef,undef,undef,undef,undef,undef,undef,undef,undef,undef,undef,undef,undef,undef,undef,undef,undef,undef,undef,undef,undef,undef,undef,undef,undef])
  (.s [.c,.c,.v,.v,.v,.c,.c,.c,.v,.v,.v,.own 0,.v,.call (.tuple #[.int .i64 0,.int .i64 2]),.v,.v,.v,.v,.v,.c,.c,.c,.c,.v,.v,.c,.c,.c,.c,.c,.v,.v,.v,.v,.own 0,.v,.setv 31 (.int .i64 (ru+1)),.v,.v,.v,.put 0] (.s [.c,.c,.d [],.at 0 false,.v,.at 1 false,.v,.at 2 false,.v,.at 3 false,.v,.at 4 false,.own 0,.at 5 false,.v,.at 6 false,.v,.at 7 false,.v,.at 8 false,.v,.at 9 false,.own 0,.at 10 false,.v,.at 11 false,.v,.at 12 false,.v,.at 13 false,.v,.at 14 false,.own 0,.at 15 false,.v,.at 16 false,.v,.at 17 false,.v,.at 18 false,.v,.c] (.ret [])))
  el hS0 ExX.nil Tryz.func33 el el (Eq.mp el (let bs1:AD:=[(f,(AG la ru c))];aI (Eq.refl f) (aI (cv B bs1 [] [] [] ((λW hS=>J4 c n hc hk hq W))) (aI (Eq.refl f) (aI (show Value.int .i64 (IntKind.i64.wrap (ru+1))=.int .i64 (ru+1)from congrArg (Value.int .i64) (BE en)) (aI (A_ f) (aI trivial (let bs2:AD:=[(f,(AG la (ru+1) c))];aI (Eq.refl f) (aI (Eq.refl f) (aI (Eq.refl f) (aI trivial ((show AO B R bs2 [] [] [] (.tuple #[.int .i64 la,.bool true,.bool (decide ((ru+1)>(c 27)))])from by
     exactλW hS=>⟨λ_=>0,rfl,(hS.sel [0] rfl eo).norows⟩))))))))))))))
theorem PH(f:Nat)(la ru:Int)(c:Nat->Int)(n:Int)(hc: ∀i,Ai (c i))(hk:Ct c=0)(hq:AU c n=false)(hru:0<=ru/\ru<=1000000)(w:World)(hS0:Sx (AH w [(f,(AG la ru c))] []) w [(f,(AG la ru c))] [] [] []):Calls Tryz.prog 33 #[.pointer (some ⟨f,0,none⟩),.int .i64 n] w (λe w'=> ∃ρ:Nat->Nat,e=.returned (.tuple #[.int .i64 (FC c n),.bool false,.bool false])/\Sx (AH w [(f,(AG la ru c))] []) w' [(f,(AG (FC c n) 0 c))] [] [] []):=by
 exact(let B:Base:=(AH w [(f,(AG la ru c))] []);let R:Ending->World->Prop:=(λe w'=> ∃ρ:Nat->Nat,e=.returned (.tuple #[.int .i64 (FC c n),.bool false,.bool false])/\Sx (AH w [(f,(AG la ru c))] []) w' [(f,(AG (FC c n) 0 c))] [] [] []);AC (f:=33) (B:=B) (R:=R) (es:=[]) (c:=Tryz.f33.body.getD .skip) (tmps:=#[.pointer (some ⟨f,0,none⟩),.int .i64 n,undef,undef,undef,undef,undef,undef,undef,undef,undef,undef,undef,undef,undef,undef,undef,undef,undef,undef,undef,undef,undef,undef,undef,undef,undef,undef,undef,undef,undef,undef,undef,undef,undef,undef,undef,undef,undef,undef,undef,undef,undef,undef,undef,undef,undef,undef,undef,undef,undef])
  (.s [.c,.c,.v,.v,.v,.c,.c,.c,.v,.v,.v,.own 0,.v,.call (.tuple #[.int .i64 (FC c n),.int .i64 0]),.v,.v,.v,.v,.v,.c,.c,.c,.c,.v,.v,.c,.c,.c,.c,.v,.v,.v,.v,.v,.put 0] (.s [.c,.c,.c,.v,.v,.v,.v,.c] (.ret [])))
  el hS0 ExX.nil Tryz.func33 el el (Eq.mp el (let bs1:AD:=[(f,(AG la ru c))];aI (Eq.refl f) (aI (cv B bs1 [] [] [] ((λW hS=>KB c n hc hk hq W))) (aI (DR f) (aI trivial (let bs2:AD:=[(f,(AG (FC c n) 0 c))];aI trivial ((show AO B R bs2 [] [] [] (.tuple #[.int .i64 (FC c n),.bool false,.bool false])from by
     exactλW hS=>⟨λ_=>0,rfl,(hS.sel [0] rfl eo).norows⟩)))))))))
end Go.Proofs.YtikajapjkdloaaaGreatDoor
