/- The reference of layers 6 and 17: Good, Mean at sixteen good counts. -/
import Derived.Test.YtikajapjkdloaaaGreatDoor937
namespace Go.Proofs.YtikajapjkdloaaaGreatDoor
set_option linter.unusedVariables false
set_option linter.unusedSimpArgs false
set_option maxRecDepth 1000000
set_option maxHeartbeats 8000000
open Go.RowKit
section
def cm(zs:List Int):Nat->Int
 |0=>zs.getD 0 0
 |k+1=>if zs.getD k 0<cm zs k then zs.getD k 0 else cm zs k
def c_(zs:List Int)(l:Int):Nat->Int
 |0=>0
 |k+1=>c_ zs l k+zs.getD k 0-l
theorem d6{zs:List Int}{k:Nat}(h:decide (zs.getD k 0<cm zs k)=true):cm zs (k+1)=zs.getD k 0:=if_pos (of_decide_eq_true h)
theorem eN{zs:List Int}{k:Nat}(h:decide (zs.getD k 0<cm zs k)=false):cm zs (k+1)=cm zs k:=if_neg (of_decide_eq_false h)
theorem dD{zs:List Int}(hz: ∀j,j<16->Ag (zs.getD j 0)=true): ∀k,k<=16->(90528<=cm zs k/\cm zs k<=430515)/\ ∀j,j<k->cm zs k<=zs.getD j 0:=by
 intro k
 induction k with
 |zero=>intro _;exact⟨FM (hz 0 eo),λj hj=>absurd hj (Nat.not_lt_zero j)⟩
 |succ k ih=>
  intro hk
  obtain⟨h1,h2⟩:=ih en
  have g:=FM (hz k en)
  show(90528<=(if zs.getD k 0<cm zs k then zs.getD k 0 else cm zs k)/\(if zs.getD k 0<cm zs k then zs.getD k 0 else cm zs k)<=430515)/\ ∀j,j<k+1->(if zs.getD k 0<cm zs k then zs.getD k 0 else cm zs k)<=zs.getD j 0
  split
  ·refine⟨g,λj hj=> ?_⟩
   rcases Nat.lt_or_eq_of_le (Nat.le_of_lt_succ hj)with q|q
   ·have:=h2 j q;omega
   subst q;exact Int.le_refl _
  refine⟨h1,λj hj=> ?_⟩
  rcases Nat.lt_or_eq_of_le (Nat.le_of_lt_succ hj)with q|q
  ·exact h2 j q
  subst q;omega
theorem dj{zs:List Int}(hz: ∀j,j<16->Ag (zs.getD j 0)=true): ∀k,k<=16->0<=c_ zs (cm zs 16) k/\c_ zs (cm zs 16) k<=430515*(k:Int):=by
 intro k
 induction k with
 |zero=>intro _;exact⟨Int.le_refl _,by show(0:Int)<=_;omega⟩
 |succ k ih=>
  intro hk
  have a:=ih en
  have g:=FM (hz k en)
  have l:=dD hz 16 en
  have:=l.2 k en
  show 0<=c_ zs (cm zs 16) k+zs.getD k 0-cm zs 16/\c_ zs (cm zs 16) k+zs.getD k 0-cm zs 16<=_
  omega
theorem eD(zs:List Int)(l:Int): ∀k:Nat,c_ zs l k=Dj zs k-(k:Int)*l
 |0=>by show(0:Int)=0-((0:Nat):Int)*l;simp
 |k+1=>by
  show c_ zs l k+zs.getD k 0-l=Dj zs k+zs.getD k 0-((k+1:Nat):Int)*l
  rw[eD zs l k,Int.natCast_add,Int.add_mul];omega
theorem ec{zs:List Int}(hz: ∀j,j<16->Ag (zs.getD j 0)=true){k:Nat}(h1:16*(k:Int)<=c_ zs (cm zs 16) 16)(h2:c_ zs (cm zs 16) 16-16*(k:Int)<16):cm zs 16+(k:Int)=EK zs:=by
 have e:=eD zs (cm zs 16) 16
 have s:=Mo hz 16 en
 unfold EK
 rw[Int.tdiv_eq_ediv_of_nonneg en]
 omega
theorem dP(x:Int)(w:World):Calls Tryz.prog 42 #[.int .i64 x] w (λe w'=>e=.returned (.bool (Ag x))/\Below w.heap.size w w'):=by
 exact(let B:Base:=(⟨w,λ_=>False⟩:Base);let R:Ending->World->Prop:=(λe w'=>e=.returned (.bool (Ag x))/\Below w.heap.size w w');AC (f:=42) (B:=B) (R:=R) (es:=[]) (c:=Tryz.f42.body.getD .skip) (tmps:=(Gn [vI x] 8))
  (.s [.c,.c,.v,.c,.c,.c,.v,.v,.v] (.split 5 (.s [.v,.v,.v,.v,.c] (.ret [])) (.s [.u,.u,.v,.v,.c] (.ret []))))
  el (Sx.refl w _) ExX.nil Tryz.func42 el el (Eq.mp el (And.intro (λ(h1:(decide (x>90527))=true)=>have h1p:x>90527:=(by simpa using h1);aI trivial ((show AO B R [] [] [] [] (.bool (decide (x<430516)))from by
     exactλW hS=>⟨by rw[show Ag x=decide (x<430516)from by unfold Ag;rw[decide_eq_true (show x>=90528 by omega),Bool.true_and];exact decide_eq_decide.2 en],hS.bl⟩))) (λ(h2:(decide (x>90527))=false)=>have h2p: ¬(x>90527):=(by simpa using h2);aI trivial ((show AO B R [] [] [] [] (vF)from by
     exactλW hS=>⟨by have e:Ag x=false:=(by unfold Ag;simp only[Bool.and_eq_false_iff,decide_eq_false_iff_not];omega);rw[e],hS.bl⟩))))))
abbrev dN(X1:Lt):Value:=vI ((X1.k:Nat):Int)
theorem dd(zs:List Int)(b cp:Nat)(hl:zs.length=16)(hz: ∀j,j<16->Ag (zs.getD j 0)=true)(w:World)(hb:b<w.heap.size)(hx: ∀(i:Nat)(v:Value),(zs.map (Value.int .i64))[i]? =some v->w.cell? ⟨b,i,none⟩=some v):Calls Tryz.prog 16 #[.slice (some ⟨b,0,none⟩) 16 cp] w (λe w'=>e=.returned (.tuple #[.int .i64 (EK zs),.int .i64 0])/\Below w.heap.size w w'):=by
 exact(let B:Base:=(⟨w,λ_=>False⟩:Base);let R:Ending->World->Prop:=(λe w'=>e=.returned (.tuple #[.int .i64 (EK zs),.int .i64 0])/\Below w.heap.size w w');let Z5:Lt:=(⟨0,λ_=>0,lu [(2,[vI 0,vI 0])],λ_=>(none,0),λ_=>0,λ_=>[]⟩:Lt);let I2:Lt->Prop:= λζ=>ζ.k<=16;let M3:Lt->Nat:= λζ=>16-ζ.k;let S4:Lt->SD:= λζ=>(⟨#[vS b 16 cp,vN,(ζ.u 2),(ζ.u 3),vI (cm zs ζ.k),vI ((ζ.k:Nat):Int),vN,vN,vN,vS b 16 cp,vI 16,vF,vS b 16 cp,vP b,vI (zs.getD 0 0),(ζ.u 15),(ζ.u 16),(ζ.u 17),(ζ.u 18),(ζ.u 19),(ζ.u 20),(ζ.u 21),(ζ.u 22),(ζ.u 23),(ζ.u 24),(ζ.u 25),(ζ.u 26),(ζ.u 27),(ζ.u 28),(ζ.u 29),(ζ.u 30),(ζ.u 31),(ζ.u 32),(ζ.u 33),(ζ.u 34),(ζ.u 35),(ζ.u 36),vN,vN,vN,vN,vN,vN,vN,vN,vN,vN,vN,vN,vN,vN,vN,vN,vN,vN,vN,vN,vN,vN,vN,vN,vN,vN],[],[],[],[]⟩:SD);let Z8:(Lt)->Lt:= λ(X1:Lt)=>(⟨X1.k+1,λ_=>0,lu [(2,[(X1.u 2),(X1.u 3)]),(15,[(dN X1),vS b 16 cp,vI 16,vT,(dN X1),vI ((X1.k+1:Nat):Int),vS b 16 cp,(dN X1),.pointer (some ⟨b,X1.k,none⟩),vI (zs.getD X1.k 0),.bool (Ag (zs.getD X1.k 0)),vF,vS b 16 cp,(dN X1),.pointer (some ⟨b,X1.k,none⟩),vI (zs.getD X1.k 0),vI (cm zs X1.k),vT,vS b 16 cp,(dN X1),.pointer (some ⟨b,X1.k,none⟩),vI (zs.getD X1.k 0)])],λ_=>(none,0),λ_=>0,λ_=>[]⟩:Lt);let Z10:(Lt)->Lt:= λ(X1:Lt)=>(⟨X1.k+1,λ_=>0,lu [(2,[(X1.u 2),(X1.u 3)]),(15,[(dN X1),vS b 16 cp,vI 16,vT,(dN X1),vI ((X1.k+1:Nat):Int),vS b 16 cp,(dN X1),.pointer (some ⟨b,X1.k,none⟩),vI (zs.getD X1.k 0),.bool (Ag (zs.getD X1.k 0)),vF,vS b 16 cp,(dN X1),.pointer (some ⟨b,X1.k,none⟩),vI (zs.getD X1.k 0),vI (cm zs X1.k),vF,(X1.u 33),(X1.u 34),(X1.u 35),(X1.u 36)])],λ_=>(none,0),λ_=>0,λ_=>[]⟩:Lt);let I13:Lt->Prop:= λζ=>ζ.k<=16;let M14:Lt->Nat:= λζ=>16-ζ.k;let S15:(Lt)->Lt->SD:= λ(X1:Lt)=> λζ=>(⟨#[vS b 16 cp,vN,(X1.u 2),(X1.u 3),vI (cm zs 16),(dN X1),vI (c_ zs (cm zs 16) ζ.k),vI ((ζ.k:Nat):Int),vN,vS b 16 cp,vI 16,vF,vS b 16 cp,vP b,vI (zs.getD 0 0),(dN X1),vS b 16 cp,vI 16,vF,(X1.u 19),(X1.u 20),(X1.u 21),(X1.u 22),(X1.u 23),(X1.u 24),(X1.u 25),(X1.u 26),(X1.u 27),(X1.u 28),(X1.u 29),(X1.u 30),(X1.u 31),(X1.u 32),(X1.u 33),(X1.u 34),(X1.u 35),(X1.u 36),(ζ.u 37),(ζ.u 38),(ζ.u 39),(ζ.u 40),(ζ.u 41),(ζ.u 42),(ζ.u 43),(ζ.u 44),(ζ.u 45),(ζ.u 46),(ζ.u 47),(ζ.u 48),(ζ.u 49),(ζ.u 50),vN,vN,vN,vN,vN,vN,vN,vN,vN,vN,vN,vN],[],[],[],[]⟩:SD);let Z17:(Lt)->Lt:= λ(X12:Lt)=>(⟨X12.k+1,λ_=>0,lu [(37,[vI ((X12.k:Nat):Int),vS b 16 cp,vI 16,vT,vI ((X12.k:Nat):Int),vI ((X12.k+1:Nat):Int),vI (c_ zs (cm zs 16) X12.k),vS b 16 cp,vI ((X12.k:Nat):Int),.pointer (some ⟨b,X12.k,none⟩),vI (zs.getD X12.k 0),vI ((c_ zs (cm zs 16) X12.k)+(zs.getD X12.k 0)),vI (cm zs 16),vI (((c_ zs (cm zs 16) X12.k)+(zs.getD X12.k 0))-(cm zs 16))])],λ_=>(none,0),λ_=>0,λ_=>[]⟩:Lt);let I20:Lt->Prop:= λζ=>16*(ζ.k:Int)<=c_ zs (cm zs 16) 16;let M21:Lt->Nat:= λζ=>(c_ zs (cm zs 16) 16).toNat-ζ.k;let S22:(Lt)->(Lt)->Lt->SD:= λ(X1:Lt)(X12:Lt)=> λζ=>(⟨#[vS b 16 cp,vN,(X1.u 2),(X1.u 3),vI (cm zs 16),(dN X1),vI (c_ zs (cm zs 16) 16-16*((ζ.k:Nat):Int)),vI ((X12.k:Nat):Int),vI (cm zs 16+((ζ.k:Nat):Int)),vS b 16 cp,vI 16,vF,vS b 16 cp,vP b,vI (zs.getD 0 0),(dN X1),vS b 16 cp,vI 16,vF,(X1.u 19),(X1.u 20),(X1.u 21),(X1.u 22),(X1.u 23),(X1.u 24),(X1.u 25),(X1.u 26),(X1.u 27),(X1.u 28),(X1.u 29),(X1.u 30),(X1.u 31),(X1.u 32),(X1.u 33),(X1.u 34),(X1.u 35),(X1.u 36),vI ((X12.k:Nat):Int),vS b 16 cp,vI 16,vF,(X12.u 41),(X12.u 42),(X12.u 43),(X12.u 44),(X12.u 45),(X12.u 46),(X12.u 47),(X12.u 48),(X12.u 49),(X12.u 50),vI (cm zs 16),(ζ.u 52),(ζ.u 53),(ζ.u 54),(ζ.u 55),(ζ.u 56),(ζ.u 57),(ζ.u 58),(ζ.u 59),(ζ.u 60),(ζ.u 61),vN],[],[],[],[]⟩:SD);let Z24:(Lt)->Lt:= λ(X19:Lt)=>(⟨X19.k+1,λ_=>0,lu [(52,[vI (c_ zs (cm zs 16) 16-16*((X19.k:Nat):Int)),vS b 16 cp,vI 16,vT,vI (c_ zs (cm zs 16) 16-16*((X19.k:Nat):Int)),vS b 16 cp,vI 16,vI ((c_ zs (cm zs 16) 16-16*((X19.k:Nat):Int))-16),vI (cm zs 16+((X19.k:Nat):Int)),vI ((cm zs 16+((X19.k:Nat):Int))+1)])],λ_=>(none,0),λ_=>0,λ_=>[]⟩:Lt);AC (f:=16) (B:=B) (R:=R) (es:=[(b,(zs.map (Value.int .i64)))]) (c:=Tryz.f16.body.getD .skip) (tmps:=(Gn [vS b 16 cp] 62))
  (.s [.c,.c,.v,.v,.c,.c,.c,.c,.v,.v,.v,.c,.c,.c,.c,.c,.v,.fact (vP b),.ld (vI (zs.getD 0 0)),.v,.c,.c,.c,.c,.v,.c,.c,.c] (.loop (σ:=Lt) I2 M3 S4 (λX1=>.s [.c,.c,.c,.v,.v,.v,.v,.c] (.split 18 (.s [.c,.c,.c,.c,.c,.c,.c,.v,.v,.fact (.pointer (some ⟨b,X1.k,none⟩)),.ld (vI (zs.getD X1.k 0)),.call (.bool (Ag (zs.getD X1.k 0))),.v,.c,.setv 26 (vF),.c,.c,.c,.c,.v,.v,.fact (.pointer (some ⟨b,X1.k,none⟩)),.ld (vI (zs.getD X1.k 0)),.v,.v,.c] (.split 32 (.s [.c,.c,.v,.v,.fact (.pointer (some ⟨b,X1.k,none⟩)),.ld (vI (zs.getD X1.k 0)),.v,.c,.c,.c,.v,.v,.setv 20 (vI ((X1.k+1:Nat):Int)),.v,.c,.c,.setv 4 (vI (cm zs (X1.k+1)))] (.again 0)) (.s [.c,.c,.c,.c,.v,.v,.setv 20 (vI ((X1.k+1:Nat):Int)),.v,.c,.c,.setv 4 (vI (cm zs (X1.k+1)))] (.again 0)))) (.s [.c,.c,.c,.c,.v,.c,.c,.c,.c,.v,.c,.c,.c,.setv 4 (vI (cm zs 16))] (.loop (σ:=Lt) I13 M14 (S15 X1) (λX12=>.s [.c,.c,.c,.v,.v,.v,.v,.c] (.split 40 (.s [.c,.c,.c,.c,.c,.v,.v,.v,.fact (.pointer (some ⟨b,X12.k,none⟩)),.ld (vI (zs.getD X12.k 0)),.v,.setv 48 (vI ((c_ zs (cm zs 16) X12.k)+(zs.getD X12.k 0))),.v,.v,.setv 50 (vI (((c_ zs (cm zs 16) X12.k)+(zs.getD X12.k 0))-(cm zs 16))),.v,.c,.c,.c,.v,.v,.setv 42 (vI ((X12.k+1:Nat):Int)),.v,.c,.c,.setv 6 (vI (c_ zs (cm zs 16) (X12.k+1)))] (.again 0)) (.s [.c,.c,.c,.c,.v,.v,.c,.c,.c,.c,.setv 6 (vI (c_ zs (cm zs 16) 16-16*((0:Nat):Int))),.setv 8 (vI (cm zs 16+((0:Nat):Int)))] (.loop (σ:=Lt) I20 M21 (S22 X1 X12) (λX19=>.s [.c,.c,.c,.v,.v,.v,.v,.c] (.split 55 (.s [.c,.c,.c,.c,.c,.v,.v,.v,.v,.setv 59 (vI ((c_ zs (cm zs 16) 16-16*((X19.k:Nat):Int))-16)),.v,.c,.c,.v,.v,.setv 61 (vI ((cm zs 16+((X19.k:Nat):Int))+1)),.v,.c,.c,.c,.setv 6 (vI (c_ zs (cm zs 16) 16-16*((X19.k+1:Nat):Int))),.setv 8 (vI (cm zs 16+((X19.k+1:Nat):Int)))] (.again 0)) (.s [.c,.c,.c,.c,.v,.v,.v,.c] (.ret []))))))))))))))
  el (Sx.refl w _) (by exact ExX.cons ⟨hb,id,hx⟩ (ExX.nil)) Tryz.func16 el el (Eq.mp el (aI (Qn b 16 cp 0 en) (aI (HK [(b,(zs.map (Value.int .i64)))] [] (b:=b) (k:=0) (zs:=zs) (List.mem_cons_self ..) en) (And.intro (Ij I2 S4 (Z5) (show Z5.k<=16 from by(exact Nat.zero_le _)) [] [] [] (λ_ h=>h) (λ_ h=>h) el) (λ(X1:Lt)(hI0:X1.k<=16)=>hv (hI0) (λK0=>And.intro (λ(h6:(decide (((X1.k:Nat):Int)<16))=true)=>hv (show((X1.k:Nat):Int)<16 from(by simpa using h6)) (λh6p=>aI (Qn b 16 cp X1.k en) (aI (HK [(b,(zs.map (Value.int .i64)))] [] (b:=b) (k:=X1.k) (zs:=zs) (List.mem_cons_self ..) en) (aI (cv B [] [] [] [] ((λW hS=>dP (zs.getD X1.k 0) W))) (aI (show Value.bool (!(Ag (zs.getD X1.k 0)))=vF from(by rw[((hz X1.k en):(Ag (zs.getD X1.k 0))=true)];rfl)) (aI (Qn b 16 cp X1.k en) (aI (HK [(b,(zs.map (Value.int .i64)))] [] (b:=b) (k:=X1.k) (zs:=zs) (List.mem_cons_self ..) en) (And.intro (λ(h7:(decide ((zs.getD X1.k 0)<(cm zs X1.k)))=true)=>hv (show(zs.getD X1.k 0)<(cm zs X1.k)from(by simpa using h7)) (λh7p=>hv (d6 h7) (λRK=>aI (Qn b 16 cp X1.k en) (aI (HK [(b,(zs.map (Value.int .i64)))] [] (b:=b) (k:=X1.k) (zs:=zs) (List.mem_cons_self ..) en) (aI (vE (a:=(IntKind.i64.wrap (((X1.k:Nat):Int)+1))) (b:=((X1.k+1:Nat):Int)) (by rw[BE en];rfl)) (aI (show(vI (zs.getD X1.k 0):Value)=vI (cm zs (X1.k+1))from(congrArg (Value.int .i64) RK.symm)) ((FY (Ax 14 [false] [.code (Tryz.f16.body.getD .skip)]) I2 M3 S4 X1 ((Z8 X1)) (show(Z8 X1).k<=16 from by(show X1.k+1<=16);(omega)) (show(16-(Z8 X1).k)<(16-X1.k)from by(show 16-(X1.k+1)<16-X1.k);(omega)) [] [] [] (λ_ h=>h) (λ_ h=>h) el)))))))) (λ(h9:(decide ((zs.getD X1.k 0)<(cm zs X1.k)))=false)=>hv (show¬((zs.getD X1.k 0)<(cm zs X1.k))from(by simpa using h9)) (λh9p=>hv (eN h9) (λRK=>aI (vE (a:=(IntKind.i64.wrap (((X1.k:Nat):Int)+1))) (b:=((X1.k+1:Nat):Int)) (by rw[BE en];rfl)) (aI (show(vI (cm zs X1.k):Value)=vI (cm zs (X1.k+1))from(congrArg (Value.int .i64) RK.symm)) ((FY (Ax 14 [false] [.code (Tryz.f16.body.getD .skip)]) I2 M3 S4 X1 ((Z10 X1)) (show(Z10 X1).k<=16 from by(show X1.k+1<=16);(omega)) (show(16-(Z10 X1).k)<(16-X1.k)from by(show 16-(X1.k+1)<16-X1.k);(omega)) [] [] [] (λ_ h=>h) (λ_ h=>h) el)))))))))))))) (λ(h11:(decide (((X1.k:Nat):Int)<16))=false)=>hv (show¬(((X1.k:Nat):Int)<16)from(by simpa using h11)) (λh11p=>aI (show(vI (cm zs X1.k):Value)=vI (cm zs 16)from(by rw[show X1.k=16 by omega])) (And.intro (Ij I13 (S15 X1) ((⟨0,λ_=>0,λ_=>vN,λ_=>(none,0),λ_=>0,λ_=>[]⟩:Lt)) (show(⟨0,λ_=>0,λ_=>vN,λ_=>(none,0),λ_=>0,λ_=>[]⟩:Lt).k<=16 from by(exact Nat.zero_le _)) [] [] [] (λ_ h=>h) (λ_ h=>h) el) (λ(X12:Lt)(hI1:X12.k<=16)=>hv (hI1) (λK1=>hv (dj hz X12.k hI1) (λO1=>And.intro (λ(h16:(decide (((X12.k:Nat):Int)<16))=true)=>hv (show((X12.k:Nat):Int)<16 from(by simpa using h16)) (λh16p=>aI (Qn b 16 cp X12.k en) (aI (HK [(b,(zs.map (Value.int .i64)))] [] (b:=b) (k:=X12.k) (zs:=zs) (List.mem_cons_self ..) en) (aI (vE (a:=(IntKind.i64.wrap ((c_ zs (cm zs 16) X12.k)+(zs.getD X12.k 0)))) (b:=((c_ zs (cm zs 16) X12.k)+(zs.getD X12.k 0))) (BE (by have L:=dD hz 16 (Nat.le_refl _);have G:=FM (hz X12.k en);omega))) (aI (vE (a:=(IntKind.i64.wrap (((c_ zs (cm zs 16) X12.k)+(zs.getD X12.k 0))-(cm zs 16)))) (b:=(((c_ zs (cm zs 16) X12.k)+(zs.getD X12.k 0))-(cm zs 16))) (BE (by have L:=dD hz 16 (Nat.le_refl _);have G:=FM (hz X12.k en);omega))) (aI (vE (a:=(IntKind.i64.wrap (((X12.k:Nat):Int)+1))) (b:=((X12.k+1:Nat):Int)) (by rw[BE en];rfl)) (aI (show(vI (((c_ zs (cm zs 16) X12.k)+(zs.getD X12.k 0))-(cm zs 16)):Value)=vI (c_ zs (cm zs 16) (X12.k+1))from rfl) ((FY (Ax 26 [false,false] [.code (Tryz.f16.body.getD .skip)]) I13 M14 (S15 X1) X12 ((Z17 X12)) (show(Z17 X12).k<=16 from by(show X12.k+1<=16);(omega)) (show(16-(Z17 X12).k)<(16-X12.k)from by(show 16-(X12.k+1)<16-X12.k);(omega)) [] [] [] (λ_ h=>h) (λ_ h=>h) el))))))))) (λ(h18:(decide (((X12.k:Nat):Int)<16))=false)=>hv (show¬(((X12.k:Nat):Int)<16)from(by simpa using h18)) (λh18p=>aI (show(vI (c_ zs (cm zs 16) X12.k):Value)=vI (c_ zs (cm zs 16) 16-16*((0:Nat):Int))from(congrArg (Value.int .i64) (by rw[show X12.k=16 by omega];omega))) (aI (show(vI (cm zs 16):Value)=vI (cm zs 16+((0:Nat):Int))from(congrArg (Value.int .i64) en)) (And.intro (Ij I20 (S22 X1 X12) ((⟨0,λ_=>0,λ_=>vN,λ_=>(none,0),λ_=>0,λ_=>[]⟩:Lt)) (show 16*((⟨0,λ_=>0,λ_=>vN,λ_=>(none,0),λ_=>0,λ_=>[]⟩:Lt).k:Int)<=c_ zs (cm zs 16) 16 from by(have:=dj hz 16 en);(show 16*((0:Nat):Int)<=c_ zs (cm zs 16) 16);(omega)) [] [] [] (λ_ h=>h) (λ_ h=>h) el) (λ(X19:Lt)(hI2:16*(X19.k:Int)<=c_ zs (cm zs 16) 16)=>hv (hI2) (λK2=>hv (dj hz 16 (Nat.le_refl _)) (λO2=>And.intro (λ(h23:(decide ((c_ zs (cm zs 16) 16-16*((X19.k:Nat):Int))>=16))=true)=>hv (show(c_ zs (cm zs 16) 16-16*((X19.k:Nat):Int))>=16 from(by simpa using h23)) (λh23p=>aI (vE (a:=(IntKind.i64.wrap ((c_ zs (cm zs 16) 16-16*((X19.k:Nat):Int))-16))) (b:=((c_ zs (cm zs 16) 16-16*((X19.k:Nat):Int))-16)) (BE (by have L:=dD hz 16 (Nat.le_refl _);omega))) (aI (vE (a:=(IntKind.i64.wrap ((cm zs 16+((X19.k:Nat):Int))+1))) (b:=((cm zs 16+((X19.k:Nat):Int))+1)) (BE (by have L:=dD hz 16 (Nat.le_refl _);omega))) (aI (show(vI ((c_ zs (cm zs 16) 16-16*((X19.k:Nat):Int))-16):Value)=vI (c_ zs (cm zs 16) 16-16*((X19.k+1:Nat):Int))from(congrArg (Value.int .i64) en)) (aI (show(vI ((cm zs 16+((X19.k:Nat):Int))+1):Value)=vI (cm zs 16+((X19.k+1:Nat):Int))from(congrArg (Value.int .i64) en)) ((FY (Ax 36 [false,false,false] [.code (Tryz.f16.body.getD .skip)]) I20 M21 (S22 X1 X12) X19 ((Z24 X19)) (show 16*((Z24 X19).k:Int)<=c_ zs (cm zs 16) 16 from by(show 16*((X19.k+1:Nat):Int)<=c_ zs (cm zs 16) 16);(omega)) (show((c_ zs (cm zs 16) 16).toNat-(Z24 X19).k)<((c_ zs (cm zs 16) 16).toNat-X19.k)from by(show(c_ zs (cm zs 16) 16).toNat-(X19.k+1)<(c_ zs (cm zs 16) 16).toNat-X19.k);(omega)) [] [] [] (λ_ h=>h) (λ_ h=>h) el))))))) (λ(h25:(decide ((c_ zs (cm zs 16) 16-16*((X19.k:Nat):Int))>=16))=false)=>hv (show¬((c_ zs (cm zs 16) 16-16*((X19.k:Nat):Int))>=16)from(by simpa using h25)) (λh25p=>aI trivial ((show AO B R [] [] [] [] (.tuple #[vI (cm zs 16+((X19.k:Nat):Int)),vI 0])from by
     have EM:=ec hz (k:=X19.k) K2 en
     exactλW hS=>⟨by rw[EM],hS.bl⟩))))))))))))))))))))))))
end
section
def ct(x:Int):Nat->Nat
 |0=>0
 |k+1=>if tabL.getD k 0>=x then k else ct x k
theorem eR{x:Int}{k:Nat}(h:decide (tabL.getD k 0>=x)=true):ct x (k+1)=k:=if_pos (of_decide_eq_true h)
theorem ee{x:Int}{k:Nat}(h:decide (tabL.getD k 0>=x)=false):ct x (k+1)=ct x k:=if_neg (of_decide_eq_false h)
theorem eO{x:Int}{j:Nat}(h:j<BG x)(hl:BG x<47):tabL.getD j 0>=x:=by
 have b:=List.not_of_lt_findIdx (xs:=tabL) (p:= λc=>decide (c<x)) (i:=j) h
 have hj:j<tabL.length:=by show j<47;omega
 rw[List.getD_eq_getElem?_getD,List.getElem?_eq_getElem hj]
 show tabL[j]>=x
 have nb: ¬tabL[j]<x:=of_decide_eq_false b
 omega
theorem dt{x:Int}(hx:Ag x=true): ∀d,BG x+d<47->tabL.getD (BG x+d) 0<x
 |0,_=>(Qb hx).2.1
 |d+1,h=>by
  have a:=dt hx d en
  have s:=P6 (BG x+d) en
  rw[show BG x+(d+1)=BG x+d+1 by omega]
  omega
theorem d9{x:Int}(hx:Ag x=true): ∀k,1<=k->k<=BG x->ct x k=k-1
 |0,h,_=>absurd h eo
 |k+1,_,h=>by
  have i:=OC hx
  exact if_pos (eO en en)
theorem db{x:Int}(hx:Ag x=true): ∀d,BG x+d<=47->ct x (BG x+d)=BG x-1
 |0,_=>d9 hx _ (OC hx).1 (Nat.le_refl _)
 |d+1,h=>by
  have a:=dt hx d en
  show(if tabL.getD (BG x+d) 0>=x then BG x+d else ct x (BG x+d))=_
  rw[if_neg en]
  exact db hx d en
theorem eC{x:Int}(hx:Ag x=true):ct x 47=BG x-1:=by
 have i:=OC hx
 have e:BG x+(47-BG x)=47:=by omega
 have:=db hx (47-BG x) en
 rw[e]at this;exact this
theorem df(x:Int): ∀k,ct x k<=k
 |0=>Nat.le_refl _
 |k+1=>by
  have:=df x k
  unfold ct;split<;>omega
theorem di(w:World):Calls Tryz.prog 43 #[] w (λe w'=> ∃r:Nat,e=.returned (.slice (some ⟨r,0,none⟩) 47 47)/\Sx (⟨w,λ_=>False⟩:Base) w' [(r,tabL.map (Value.int .i64))] [] [] []):=by
 exact(let B:Base:=(⟨w,λ_=>False⟩:Base);let R:Ending->World->Prop:=(λe w'=> ∃r:Nat,e=.returned (.slice (some ⟨r,0,none⟩) 47 47)/\Sx (⟨w,λ_=>False⟩:Base) w' [(r,tabL.map (Value.int .i64))] [] [] []);AC (f:=43) (B:=B) (R:=R) (es:=[]) (c:=Tryz.f43.body.getD .skip) (tmps:=#[vN,vN])
  (.s [.c,.c,.v,.c,.c,.c] (.new (λr1=>.s [.v,.c] (.ret []))))
  el (Sx.refl w _) ExX.nil Tryz.func43 el el (Eq.mp el (λ(r1:Nat)=>let e3:Nat×List Value:=(r1,[vI 430515,vI 417754,vI 405300,vI 393149,vI 381294,vI 369731,vI 358453,vI 347455,vI 336732,vI 326279,vI 316090,vI 306161,vI 296485,vI 287058,vI 277876,vI 268933,vI 260224,vI 251746,vI 243492,vI 235459,vI 227641,vI 220036,vI 212637,vI 205441,vI 198444,vI 191640,vI 185027,vI 178600,vI 172355,vI 166288,vI 160395,vI 154672,vI 149116,vI 143723,vI 138488,vI 133409,vI 128482,vI 123703,vI 119069,vI 114577,vI 110223,vI 106004,vI 101917,vI 97958,vI 94125,vI 90414,vI 86822]);let bs2:AD:=[e3];let rs4:Aw:=[(0,2,47)];aI trivial ((show AO B R bs2 [] rs4 [] (vS r1 47 47)from by
     exactλW hS=>⟨r1,rfl,(hS.sel [0] rfl eo).norows⟩)))))
theorem dc(i:Nat)(hi:i<=46)(w:World):Calls Tryz.prog 49 #[.int .i64 ((i:Nat):Int)] w (λe w'=>e=.returned (.int .i64 ((256*(i:Int)-512)*1099511627776))/\Below w.heap.size w w'):=by
 exact(let B:Base:=(⟨w,λ_=>False⟩:Base);let R:Ending->World->Prop:=(λe w'=>e=.returned (.int .i64 ((256*(i:Int)-512)*1099511627776))/\Below w.heap.size w w');AC (f:=49) (B:=B) (R:=R) (es:=[]) (c:=Tryz.f49.body.getD .skip) (tmps:=(Gn [vI ((i:Nat):Int)] 6))
  (.s [.c,.c,.v,.c,.c,.c,.v,.v,.setv 4 (vI (256*((i:Nat):Int))),.v,.setv 5 (vI ((256*((i:Nat):Int))-512)),.v,.setv 6 (vI (((256*((i:Nat):Int))-512)*1099511627776)),.v,.c] (.ret []))
  el (Sx.refl w _) ExX.nil Tryz.func49 el el (Eq.mp el (aI (vE (a:=(IntKind.i64.wrap (256*((i:Nat):Int)))) (b:=(256*((i:Nat):Int))) (BE en)) (aI (vE (a:=(IntKind.i64.wrap ((256*((i:Nat):Int))-512))) (b:=((256*((i:Nat):Int))-512)) (BE en)) (aI (vE (a:=(IntKind.i64.wrap (((256*((i:Nat):Int))-512)*1099511627776))) (b:=(((256*((i:Nat):Int))-512)*1099511627776)) (BE en)) (aI trivial ((show AO B R [] [] [] [] (vI (((256*((i:Nat):Int))-512)*1099511627776))from by
     exactλW hS=>⟨rfl,hS.bl⟩))))))))
end
end Go.Proofs.YtikajapjkdloaaaGreatDoor
