/- The reference of layer 6: Altitude of a good count. -/
import Derived.Test.YtikajapjkdloaaaGreatDoor944
import Derived.Test.YtikajapjkdloaaaGreatDoor943
namespace Go.Proofs.YtikajapjkdloaaaGreatDoor
set_option linter.unusedVariables false
set_option linter.unusedSimpArgs false
open Go.RowKit
section
theorem eM{x:Int}(hx:Ag x=true):fl (256*(tabL.getD (BG x-1) 0-x)*AI 40) (tabL.getD (BG x-1) 0-tabL.getD (BG x) 0)=Int.tdiv (281474976710656*(tabL.getD (BG x-1) 0-x)) (tabL.getD (BG x-1) 0-tabL.getD (BG x) 0):=by
 obtain⟨t1,t2,t3,_,_⟩:=Qb hx
 rw[Int.tdiv_eq_ediv_of_nonneg en]
 unfold fl
 rw[if_neg en,show AI 40=1099511627776 from Lx]
 congr 1
 omega
theorem dq{x:Int}(hx:Ag x=true):(256*((BG x-1:Nat):Int)-512)*1099511627776+Ae (fl (256*(tabL.getD (BG x-1) 0-x)*AI 40) (tabL.getD (BG x-1) 0-tabL.getD (BG x) 0))=Bp x:=by
 have p:=Oq hx
 rw[eM hx,show Ae (Int.tdiv (281474976710656*(tabL.getD (BG x-1) 0-x)) (tabL.getD (BG x-1) 0-tabL.getD (BG x) 0))=_ from if_pos eu]
 unfold Bp
 omega
theorem d5{x:Int}{l:Nat}(hx:Ag x=true)(e:l=BG x-1):IntKind.i64.wrap ((256*(l:Int)-512)*1099511627776+Ae (fl (256*(tabL.getD (BG x-1) 0-x)*AI 40) (tabL.getD (BG x-1) 0-tabL.getD (BG x) 0)))=Bp x:=by
 subst e
 have R:=K0 hx
 rw[dq hx]
 exact BE en
theorem dJ(es sb:AD){b k:Nat}{zs:List Int}(hm:(b,zs.map (Value.int .i64))∈sb∨(b,zs.map (Value.int .i64))∈es)(hk:k<zs.length):VR Tryz.prog es sb (do pure (.value (<-Instr.loadAt 2 (.pointer (some ⟨b,k,none⟩))))) (.int .i64 (zs.getD k 0)):=by
 intro W hW
 have:=OL (P:=Tryz.prog) (ty:=2) (cs:=zs.map (Value.int .i64)) (off:=k) (v:=.int .i64 (zs.getD k 0)) el el (by simp[List.getElem?_eq_getElem hk,List.getD_eq_getElem?_getD]) (hm.elim (hW.1 _) (hW.2 _))
 simp[this]
set_option maxRecDepth 1000000 in
set_option maxHeartbeats 8000000 in
theorem dQ(x:Int)(hx0:Ag x=true)(w:World):Calls Tryz.prog 17 #[.int .i64 x] w (λe w'=>e=.returned (.tuple #[.int .i64 (Bp x),.int .i64 0])/\Below w.heap.size w w'):=by
 exact(let B:Base:=(⟨w,λ_=>False⟩:Base);let R:Ending->World->Prop:=(λe w'=>e=.returned (.tuple #[.int .i64 (Bp x),.int .i64 0])/\Below w.heap.size w w');let I5:Lt->Prop:= λζ=>ζ.k<=47;let μ6:Lt->Nat:= λζ=>47-ζ.k;let S7:(Nat->Nat)->Lt->SD:= λ(P1:Nat->Nat)=> λζ=>(⟨#[vI x,vN,vI 0,vI 0,vS (P1 0) 47 47,vI ((ct x ζ.k:Nat):Int),vI ((ζ.k:Nat):Int),vN,vN,vN,vI x,.bool (Ag x),vF,vS (P1 0) 47 47,(ζ.u 14),(ζ.u 15),(ζ.u 16),(ζ.u 17),(ζ.u 18),(ζ.u 19),(ζ.u 20),(ζ.u 21),(ζ.u 22),(ζ.u 23),(ζ.u 24),(ζ.u 25),(ζ.u 26),vN,vN,vN,vN,vN,vN,vN,vN,vN,vN,vN,vN,vN,vN,vN,vN,vN,vN,vN,vN,vN,vN,vN,vN,vN,vN,vN,vN,vN,vN,vN],[((P1 0),(tabL.map (Value.int .i64)))],[],[],[]⟩:SD);let Z10:(Lt)->(Nat->Nat)->Lt:= λ(X4:Lt)(P1:Nat->Nat)=>(⟨X4.k+1,λ_=>0,lu [(14,[vI ((X4.k:Nat):Int),vS (P1 0) 47 47,vI 47,vT,vI ((X4.k:Nat):Int),vI ((X4.k+1:Nat):Int),vS (P1 0) 47 47,vI ((X4.k:Nat):Int),.pointer (some ⟨(P1 0),X4.k,none⟩),vI (tabL.getD X4.k 0),vI x,vT,vI ((X4.k:Nat):Int)])],λ_=>(none,0),λ_=>0,λ_=>[]⟩:Lt);let Z12:(Lt)->(Nat->Nat)->Lt:= λ(X4:Lt)(P1:Nat->Nat)=>(⟨X4.k+1,λ_=>0,lu [(14,[vI ((X4.k:Nat):Int),vS (P1 0) 47 47,vI 47,vT,vI ((X4.k:Nat):Int),vI ((X4.k+1:Nat):Int),vS (P1 0) 47 47,vI ((X4.k:Nat):Int),.pointer (some ⟨(P1 0),X4.k,none⟩),vI (tabL.getD X4.k 0),vI x,vF,(X4.u 26)])],λ_=>(none,0),λ_=>0,λ_=>[]⟩:Lt);AC (f:=17) (B:=B) (R:=R) (es:=[]) (c:=Tryz.f17.body.getD .skip) (tmps:=(Gn [vI x] 57))
  (.s [.c,.c,.v,.v,.c,.c,.c,.c,.v,.call (.bool (Ag x)),.v,.c,.setv 12 (vF),.c,.c,.c,.c] (.mut (λ(P1:Nat->Nat)=>(vS (P1 0) 47 47,[((P1 0),(tabL.map (Value.int .i64)))],[])) (λP1=>.s [.v,.c,.c,.c,.v,.c,.c,.c,.c,.v,.c,.c,.c] (.loop (σ:=Lt) I5 μ6 (S7 P1) (λX4=>.s [.c,.c,.c,.v,.v,.v,.v,.c] (.split 17 (.s [.c,.c,.c,.c,.c,.c,.v,.v,.fact (.pointer (some ⟨(P1 0),X4.k,none⟩)),.ld (vI (tabL.getD X4.k 0)),.v,.v,.c] (.split 25 (.s [.c,.c,.v,.v,.c,.c,.c,.v,.v,.setv 19 (vI ((X4.k+1:Nat):Int)),.v,.c,.c,.setv 5 (vI ((ct x (X4.k+1):Nat):Int))] (.again 0)) (.s [.c,.c,.c,.c,.v,.v,.setv 19 (vI ((X4.k+1:Nat):Int)),.v,.c,.c,.setv 5 (vI ((ct x (X4.k+1):Nat):Int))] (.again 0)))) (.s [.c,.c,.c,.c,.v,.v,.fact (.pointer (some ⟨(P1 0),ct x X4.k,none⟩)),.ld (vI (tabL.getD (ct x X4.k) 0)),.v,.v,.setv 32 (vI ((tabL.getD ((BG x-1)) 0)-x)),.v,.setv 33 (vI (256*((tabL.getD ((BG x-1)) 0)-x)))] (.big (256*((tabL.getD ((BG x-1)) 0)-x)) (λA14 c15=>.big (AI 40) (λA17 c18=>.big ((256*((tabL.getD ((BG x-1)) 0)-x))*(AI 40)) (λA20 c21=>.new (λr23=>.s [.put 1] (.s [.c,.c,.d [],.at 0 false,.own 1,.at 1 false,.v,.at 2 false,.v,.at 3 false,.fact (.pointer (some ⟨(P1 0),ct x X4.k,none⟩)),.at 4 false,.ld (vI (tabL.getD (ct x X4.k) 0)),.at 5 false,.v,.at 6 false,.v,.at 7 false,.v,.setv 45 (vI ((BG x:Nat):Int)),.at 8 false,.fact (.pointer (some ⟨(P1 0),BG x,none⟩)),.at 9 false,.ld (vI (tabL.getD (BG x) 0)),.at 10 false,.v,.setv 48 (vI ((tabL.getD ((BG x-1)) 0)-(tabL.getD (BG x) 0))),.at 11 true] (.big ((tabL.getD ((BG x-1)) 0)-(tabL.getD (BG x) 0)) (λA29 c30=>.s [.at 12 true] (.big (fl ((256*((tabL.getD ((BG x-1)) 0)-x))*(AI 40)) ((tabL.getD ((BG x-1)) 0)-(tabL.getD (BG x) 0))) (λA32 c33=>.s [.at 13 true,.call (.tuple #[vI (Ae (fl ((256*((tabL.getD ((BG x-1)) 0)-x))*(AI 40)) ((tabL.getD ((BG x-1)) 0)-(tabL.getD (BG x) 0)))),vI (CN (fl ((256*((tabL.getD ((BG x-1)) 0)-x))*(AI 40)) ((tabL.getD ((BG x-1)) 0)-(tabL.getD (BG x) 0))))]),.at 14 false,.v,.at 15 false,.v,.at 16 false,.v,.at 17 false,.v,.at 18 false,.v,.c,.c,.c,.v,.call (vI ((256*((ct x X4.k:Nat):Int)-512)*1099511627776)),.v,.v,.setv 57 (vI (Bp x)),.v,.v,.c] (.ret []))))))))))))))))))
  el (Sx.refl w _) ExX.nil Tryz.func17 el el (Eq.mp el (aI (cv B [] [] [] [] ((λW hS=>dP x W))) (aI (show Value.bool (!(Ag x))=vF from(by rw[(hx0:(Ag x)=true)];rfl)) (aI (CallMX.of (B:=B) (bs:=[]) (rs:=[]) (os:=[]) (ks:=[]) (bs0:=[]) (rs0:=[]) (os0:=[]) (V:= λρ=>.slice (some ⟨(ρ 0),0,none⟩) 47 47) (bs1:= λρ=>[((ρ 0),(tabL.map (Value.int .i64)))]) (rs1:= λρ=>[]) [0] (λW hW hH=>(di W).mono (λe' w' h=>h.elim λr h=>⟨λ_=>r,h.1,h.2.nb⟩)) rfl rfl eo (λ_ h=>by cases h) (List.nil_sublist _) (λ_=>rfl) eo (λ_=>rfl)) (λ(P1:Nat->Nat)=>And.intro trivial (let e3:Nat×List Value:=((P1 0),(tabL.map (Value.int .i64)));let bs2:AD:=[e3];And.intro (Ij I5 (S7 P1) ((⟨0,λ_=>0,λ_=>vN,λ_=>(none,0),λ_=>0,λ_=>[]⟩:Lt)) (show(⟨0,λ_=>0,λ_=>vN,λ_=>(none,0),λ_=>0,λ_=>[]⟩:Lt).k<=47 from by(exact Nat.zero_le _)) [] [] [] (λ_ h=>h) (λ_ h=>h) el) (λ(X4:Lt)(hI0:X4.k<=47)=>hv (hI0) (λK0_=>hv (df x X4.k) (λLL=>And.intro (λ(h8:(decide (((X4.k:Nat):Int)<47))=true)=>hv (show((X4.k:Nat):Int)<47 from(by simpa using h8)) (λh8p=>aI (Qn (P1 0) 47 47 X4.k en) (aI (dJ [] bs2 (b:=(P1 0)) (k:=X4.k) (zs:=tabL) (Or.inl (List.mem_of_getElem? (i:=0) rfl)) (show X4.k<47 by omega)) (And.intro (λ(h9:(decide ((tabL.getD X4.k 0)>=x))=true)=>hv (show(tabL.getD X4.k 0)>=x from(by simpa using h9)) (λh9p=>hv (eR h9) (λRK=>aI (vE (a:=(IntKind.i64.wrap (((X4.k:Nat):Int)+1))) (b:=((X4.k+1:Nat):Int)) (by rw[BE en];rfl)) (aI (show(vI ((X4.k:Nat):Int):Value)=vI ((ct x (X4.k+1):Nat):Int)from(congrArg (λq:Nat=>Value.int .i64 (q:Int)) RK.symm)) ((FY (Ax 16 [false] [.code (Tryz.f17.body.getD .skip)]) I5 μ6 (S7 P1) X4 ((Z10 X4 P1)) (show(Z10 X4 P1).k<=47 from by(show X4.k+1<=47);(omega)) (show(47-(Z10 X4 P1).k)<(47-X4.k)from by(show 47-(X4.k+1)<47-X4.k);(omega)) [] [] [] (λ_ h=>h) (λ_ h=>h) el)))))) (λ(h11:(decide ((tabL.getD X4.k 0)>=x))=false)=>hv (show¬((tabL.getD X4.k 0)>=x)from(by simpa using h11)) (λh11p=>hv (ee h11) (λRK=>aI (vE (a:=(IntKind.i64.wrap (((X4.k:Nat):Int)+1))) (b:=((X4.k+1:Nat):Int)) (by rw[BE en];rfl)) (aI (show(vI ((ct x X4.k:Nat):Int):Value)=vI ((ct x (X4.k+1):Nat):Int)from(congrArg (λq:Nat=>Value.int .i64 (q:Int)) RK.symm)) ((FY (Ax 16 [false] [.code (Tryz.f17.body.getD .skip)]) I5 μ6 (S7 P1) X4 ((Z12 X4 P1)) (show(Z12 X4 P1).k<=47 from by(show X4.k+1<=47);(omega)) (show(47-(Z12 X4 P1).k)<(47-X4.k)from by(show 47-(X4.k+1)<47-X4.k);(omega)) [] [] [] (λ_ h=>h) (λ_ h=>h) el)))))))))) (λ(h13:(decide (((X4.k:Nat):Int)<47))=false)=>hv (show¬(((X4.k:Nat):Int)<47)from(by simpa using h13)) (λh13p=>hv (show ct x X4.k=BG x-1 from(congrArg (ct x) (show X4.k=47 by omega)).trans (eC hx0)) (λE47=>hv (Qb hx0) (λTI=>hv (OC hx0) (λII=>aI (Qn (P1 0) 47 47 (ct x X4.k) en) (aI (dJ [] bs2 (b:=(P1 0)) (k:=ct x X4.k) (zs:=tabL) (Or.inl (List.mem_of_getElem? (i:=0) rfl)) (show ct x X4.k<47 by omega)) (aI (vE (a:=(IntKind.i64.wrap ((tabL.getD (ct x X4.k) 0)-x))) (b:=((tabL.getD ((BG x-1)) 0)-x)) (by rw[E47,BE en])) (aI (vE (a:=(IntKind.i64.wrap (256*((tabL.getD ((BG x-1)) 0)-x)))) (b:=(256*((tabL.getD ((BG x-1)) 0)-x))) (BE (by have P:=Oq hx0;have Q:=dq hx0;have R:=K0 hx0;omega))) (aI (cb B bs2 [] [] [] (256*((tabL.getD ((BG x-1)) 0)-x)) λW hS=>ZO (256*((tabL.getD ((BG x-1)) 0)-x)) (by have G:=FM hx0;unfold Ai;omega) W) (λ(A14:Option Addr)(c15:Nat)=>hv (show nd (256*((tabL.getD ((BG x-1)) 0)-x))<=4 from(cW (by have G:=FM hx0;unfold Ai;omega))) (λnA14=>let gs16:BN:=[(A14,c15,256*((tabL.getD ((BG x-1)) 0)-x))];aI (cb B bs2 gs16 [] [] (AI 40) λW hS=>Yq 40 eo W) (λ(A17:Option Addr)(c18:Nat)=>hv (show nd (AI 40)<=3 from(by rw[Y9];decide)) (λnA17=>let gs19:BN:=[(A14,c15,256*((tabL.getD ((BG x-1)) 0)-x)),(A17,c18,AI 40)];aI (cb B bs2 gs19 [] [] ((256*((tabL.getD ((BG x-1)) 0)-x))*(AI 40)) λW hS=>aq (256*((tabL.getD ((BG x-1)) 0)-x)) (AI 40) _ _ _ _ (Nat.le_trans nA14 eo) (Nat.le_trans nA17 eo) W (hS.rb 0 rfl) (hS.rb 1 rfl)) (λ(A20:Option Addr)(c21:Nat)=>hv (show nd ((256*((tabL.getD ((BG x-1)) 0)-x))*(AI 40))<=7 from(by have h1:=nA14;have h2:=nA17;have h3:=ah (256*((tabL.getD ((BG x-1)) 0)-x)) (AI 40);omega)) (λnA20=>let gs22:BN:=[(A14,c15,256*((tabL.getD ((BG x-1)) 0)-x)),(A17,c18,AI 40),(A20,c21,(256*((tabL.getD ((BG x-1)) 0)-x))*(AI 40))]; λ(r23:Nat)=>let rs26:Aw:=[(1,106,2)];aI (DR r23) (aI trivial (let e28:Nat×List Value:=(r23,[.bool (sg ((256*((tabL.getD ((BG x-1)) 0)-x))*(AI 40))),.slice A20 (nd ((256*((tabL.getD ((BG x-1)) 0)-x))*(AI 40))) c21]);let bs27:AD:=[e3,e28];aI (Eq.refl r23) (aI (Qn (P1 0) 47 47 (ct x X4.k) en) (aI (dJ [] bs27 (b:=(P1 0)) (k:=ct x X4.k) (zs:=tabL) (Or.inl (List.mem_of_getElem? (i:=0) rfl)) (show ct x X4.k<47 by omega)) (aI (vE (a:=(IntKind.i64.wrap (((ct x X4.k:Nat):Int)+1))) (b:=((BG x:Nat):Int)) (by rw[BE en];omega)) (aI (Qn (P1 0) 47 47 (BG x) en) (aI (dJ [] bs27 (b:=(P1 0)) (k:=BG x) (zs:=tabL) (Or.inl (List.mem_of_getElem? (i:=0) rfl)) (show BG x<47 by omega)) (aI (vE (a:=(IntKind.i64.wrap ((tabL.getD (ct x X4.k) 0)-(tabL.getD (BG x) 0)))) (b:=((tabL.getD ((BG x-1)) 0)-(tabL.getD (BG x) 0))) (by rw[E47,BE en])) (aI (cb B bs27 gs22 rs26 [] ((tabL.getD ((BG x-1)) 0)-(tabL.getD (BG x) 0)) λW hS=>ZO ((tabL.getD ((BG x-1)) 0)-(tabL.getD (BG x) 0)) (by have G:=FM hx0;unfold Ai;omega) W) (λ(A29:Option Addr)(c30:Nat)=>hv (show nd ((tabL.getD ((BG x-1)) 0)-(tabL.getD (BG x) 0))<=4 from(cW (by have G:=FM hx0;unfold Ai;omega))) (λnA29=>let gs31:BN:=[(A14,c15,256*((tabL.getD ((BG x-1)) 0)-x)),(A17,c18,AI 40),(A20,c21,(256*((tabL.getD ((BG x-1)) 0)-x))*(AI 40)),(A29,c30,(tabL.getD ((BG x-1)) 0)-(tabL.getD (BG x) 0))];aI (cb B bs27 gs31 rs26 [] (fl ((256*((tabL.getD ((BG x-1)) 0)-x))*(AI 40)) ((tabL.getD ((BG x-1)) 0)-(tabL.getD (BG x) 0))) λW hS=>eU ((256*((tabL.getD ((BG x-1)) 0)-x))*(AI 40)) ((tabL.getD ((BG x-1)) 0)-(tabL.getD (BG x) 0)) _ _ _ _ (show tabL.getD (BG x-1) 0-tabL.getD (BG x) 0≠0 by omega) (Nat.le_trans nA20 eo) (Nat.le_trans nA29 eo) W (hS.rb 2 rfl) (hS.rb 3 rfl)) (λ(A32:Option Addr)(c33:Nat)=>hv (show nd (fl ((256*((tabL.getD ((BG x-1)) 0)-x))*(AI 40)) ((tabL.getD ((BG x-1)) 0)-(tabL.getD (BG x) 0)))<=8 from(by have h1:=nA20;have h2:=ek ((256*((tabL.getD ((BG x-1)) 0)-x))*(AI 40)) (show tabL.getD (BG x-1) 0-tabL.getD (BG x) 0≠0 by omega);omega)) (λnA32=>let gs34:BN:=[(A14,c15,256*((tabL.getD ((BG x-1)) 0)-x)),(A17,c18,AI 40),(A20,c21,(256*((tabL.getD ((BG x-1)) 0)-x))*(AI 40)),(A29,c30,(tabL.getD ((BG x-1)) 0)-(tabL.getD (BG x) 0)),(A32,c33,fl ((256*((tabL.getD ((BG x-1)) 0)-x))*(AI 40)) ((tabL.getD ((BG x-1)) 0)-(tabL.getD (BG x) 0)))];aI (cv B bs27 gs34 rs26 [] λW hS=>cJ (fl ((256*((tabL.getD ((BG x-1)) 0)-x))*(AI 40)) ((tabL.getD ((BG x-1)) 0)-(tabL.getD (BG x) 0))) _ _ (Nat.le_trans nA32 eo) W (hS.rb 4 rfl)) (aI (cv B bs27 gs34 rs26 [] ((λW hS=>dc (ct x X4.k) en W))) (aI (vE (a:=(IntKind.i64.wrap (((256*((ct x X4.k:Nat):Int)-512)*1099511627776)+(Ae (fl ((256*((tabL.getD ((BG x-1)) 0)-x))*(AI 40)) ((tabL.getD ((BG x-1)) 0)-(tabL.getD (BG x) 0))))))) (b:=(Bp x)) (d5 hx0 E47)) (aI trivial ((show AO B R bs27 gs34 rs26 [] (.tuple #[vI (Bp x),vI 0])from by
     exactλW hS=>⟨rfl,hS.bl⟩)))))))))))))))))))))))))))))))))))))))))))
end
section
end
section
def dB(x:Int):Int:=90528+Int.tmod (Int.tmod x 339988+339988) 339988
theorem dr(x:Int): -339987<=Int.tmod x 339988/\Int.tmod x 339988<=339987:=by
 rcases Int.le_total 0 x with h|h
 ·have a:=Int.tmod_nonneg 339988 h
  have b:=Int.tmod_lt_of_pos x (b:=339988) eo
  omega
 have a:=Int.tmod_nonneg 339988 (show 0<= -x by omega)
 have b:=Int.tmod_lt_of_pos (-x) (b:=339988) eo
 rw[Int.neg_tmod]at a b
 omega
theorem dL(x:Int):Ag (dB x)=true:=by
 have h:=dr x
 have a:=Int.tmod_nonneg 339988 (show 0<=Int.tmod x 339988+339988 by omega)
 have b:=Int.tmod_lt_of_pos (Int.tmod x 339988+339988) (b:=339988) eo
 unfold Ag dB
 simp only[Bool.and_eq_true,decide_eq_true_eq]
 omega
def dF(x:Nat->Int)(k:Nat):List Int:=(List.range 16).map λj=>if j<k then dB (x j)else x j
theorem dA(x:Nat->Int)(k:Nat):(dF x k).length=16:=by unfold dF;rw[List.length_map,List.length_range]
theorem dM(x:Nat->Int)(k j:Nat)(h:j<16):(dF x k)[j]? =some (if j<k then dB (x j)else x j):=by
 unfold dF;rw[List.getElem?_map,List.getElem?_range h];rfl
theorem dY(x:Nat->Int)(k j:Nat)(h:j<16):(dF x k).getD j 0=if j<k then dB (x j)else x j:=by
 rw[List.getD_eq_getElem?_getD,dM x k j h];rfl
theorem eS(x:Nat->Int)(k:Nat)(h:k<16):(dF x k).set k (dB (x k))=dF x (k+1):=by
 apply List.ext_getElem?
 intro j
 rw[List.getElem?_set]
 by_cases e:k=j
 ·subst e;rw[if_pos rfl,if_pos (by rw[dA];exact h),dM x _ k h,if_pos (Nat.lt_succ_self k)]
 rw[if_neg e]
 rcases Nat.lt_or_ge j 16 with hj|hj
 ·rw[dM x k j hj,dM x (k+1) j hj]
  by_cases q:j<k
  ·rw[if_pos q,if_pos en]
  rw[if_neg q,if_neg en]
 rw[List.getElem?_eq_none (by rw[dA];exact hj),List.getElem?_eq_none (by rw[dA];exact hj)]
theorem dp(x:Nat->Int){k:Nat}(h:k=15): ∀j,j<16->Ag ((dF x (k+1)).getD j 0)=true:= λj hj=>by
 rw[dY x _ j hj,if_pos en];exact dL _
def dC(x:Nat->Int):Nat->List Int
 |0=>[]
 |k+1=>dC x k++[dB (x k)]
theorem eK(x:Nat->Int)(k:Nat):dC x (k+1)=dC x k++[dB (x k)]:=rfl
theorem dE(x:Nat->Int): ∀k,(dC x k).length=k
 |0=>rfl
 |k+1=>by show(dC x k++[_]).length=_;rw[List.length_append,dE x k];rfl
theorem dZ(x:Nat->Int): ∀k,∀y∈dC x k,Ag y=true
 |0,y,h=>by cases h
 |k+1,y,h=>by
  rcases List.mem_append.1 h with h|h
  ·exact dZ x k y h
  rw[List.mem_singleton.1 h];exact dL _
theorem eP(x:Nat->Int): ∀k j,j<k->(dC x k)[j]? =some (dB (x j))
 |0,j,h=>absurd h (Nat.not_lt_zero j)
 |k+1,j,h=>by
  show(dC x k++[dB (x k)])[j]? =_
  rcases Nat.lt_or_eq_of_le (Nat.le_of_lt_succ h)with q|q
  ·rw[List.getElem?_append_left (by rw[dE];exact q)];exact eP x k j q
  subst q;rw[List.getElem?_append_right (by rw[dE];exact Nat.le_refl _),dE,Nat.sub_self];rfl
theorem eQ(x:Nat->Int){k:Nat}(h:k=15):dF x (k+1)=dC x 16:=by
 subst h
 apply List.ext_getElem?
 intro j
 rcases Nat.lt_or_ge j 16 with hj|hj
 ·rw[dM x 16 j hj,eP x 16 j hj,if_pos hj]
 rw[List.getElem?_eq_none (by rw[dA];exact hj),List.getElem?_eq_none (by rw[dE];exact hj)]
def cn(c x:Nat->Int)(M A:Int)(k:Nat):Chs:=
 if k<16 then⟨v3 0 0 0,v6 0 0 0 0 0 0,0,0,dC x k,0,false,0,0⟩else⟨v3 A 0 0,v6 (c 8) 0 0 (c 9) 0 (c 10),0,0,[],M,true,1,0⟩
def td0:Td:=⟨0,false,false,false,false,false,0,0,0⟩
def cu(A:Int)(k:Nat):Td:=if k<15 then td0 else⟨1,true,true,false,false,false,BB A,0,0⟩
theorem dH{c:Nat->Int}(hk:Ct c=0):AU c (c 25)=false:=by
 have:=He hk
 unfold AU;rw[decide_eq_false en,decide_eq_false en];rfl
theorem dO{c:Nat->Int}(hk:Ct c=0):CL c 0 (c 25)=false/\BM c 0 (c 25)=0/\E4 c 0 (c 25)=0:=by
 have f:=dH hk
 refine⟨by unfold CL;rw[f];rfl,?_,if_neg (by rw[f];simp)⟩
 unfold BM;rw[if_neg (by rw[f];simp)];unfold FC;rw[Int.sub_self,Int.zero_mul]
theorem du{c:Nat->Int}(x:Nat->Int)(M A:Int)(hk:Ct c=0){k:Nat}(h:k<16):AA c (cn c x M A k) ⟨c 25,false,0,false⟩=(cn c x M A k,td0):=by
 obtain⟨hl,hi,hr⟩:=dO hk
 have f:=dH hk
 unfold cn
 rw[if_pos h]
 have hm:CR c ⟨v3 0 0 0,v6 0 0 0 0 0 0,0,0,dC x k,0,false,0,0⟩ ⟨c 25,false,0,false⟩=⟨v3 0 0 0,v6 0 0 0 0 0 0,dC x k,0,false,2,false,false,false⟩:=by
  unfold CR;dsimp only;rw[hl];rfl
 unfold AA
 rw[hm]
 unfold QD
 dsimp only
 rw[hi,hr,f]
 rfl
theorem dy{c:Nat->Int}(x:Nat->Int)(hk:Ct c=0)(k:Nat)(b:Bool):CR c ⟨v3 0 0 0,v6 0 0 0 0 0 0,0,0,dC x k,0,false,0,0⟩ ⟨c 25,true,dB (x k),b⟩=⟨Dx (v3 0 0 0) (dC x k) (dB (x k)),Ng c (v6 0 0 0 0 0 0) (dC x k),dC x k++[dB (x k)],NC 0 false (dC x k) (dB (x k)),NK false (dC x k),if Fy (dC x k)=true then 0 else 2,Fy (dC x k),false,false⟩:=by
 have hl:=(dO hk).1
 have g:=dL (x k)
 have ho:(⟨c 25,true,dB (x k),b⟩:Tk).ok=true:=by unfold Tk.ok;rw[g];rfl
 have hs:A8 0=true:=rfl
 generalize dB (x k)=z at*
 unfold CR
 dsimp only
 rw[if_neg (by rw[hl];simp),if_pos hs,if_pos ho]
theorem eJ{c:Nat->Int}(hk:Ct c=0)(zs zs':List Int)(a:Int)(h b:Bool):QD c ⟨v3 0 0 0,v6 0 0 0 0 0 0,0,0,zs,0,false,0,0⟩ ⟨c 25,h,a,b⟩ ⟨v3 0 0 0,v6 0 0 0 0 0 0,zs',0,false,2,false,false,false⟩=(⟨v3 0 0 0,v6 0 0 0 0 0 0,0,0,zs',0,false,0,0⟩,td0):=by
 obtain⟨hl,hi,hr⟩:=dO hk
 have f:=dH hk
 unfold QD
 dsimp only
 rw[hi,hr,f]
 rfl
theorem d_{c:Nat->Int}(hk:Ct c=0)(zs zs':List Int)(a A M:Int)(h b:Bool)(p:Nat->Int):QD c ⟨v3 0 0 0,v6 0 0 0 0 0 0,0,0,zs,0,false,0,0⟩ ⟨c 25,h,a,b⟩ ⟨v3 A 0 0,p,zs',M,true,0,true,false,false⟩=(⟨v3 A 0 0,p,0,0,[],M,true,1,0⟩,⟨1,true,true,false,false,false,BB A,0,0⟩):=by
 obtain⟨hl,hi,hr⟩:=dO hk
 have f:=dH hk
 have o0:BB 0=0:=by decide
 have e:QD c ⟨v3 0 0 0,v6 0 0 0 0 0 0,0,0,zs,0,false,0,0⟩ ⟨c 25,h,a,b⟩ ⟨v3 A 0 0,p,zs',M,true,0,true,false,false⟩=(⟨v3 A 0 0,p,BM c 0 (c 25),E4 c 0 (c 25),[],M,true,1,0⟩,⟨1,true,true,false,AU c (c 25),false,BB A,BB 0,BB 0⟩):=rfl
 rw[e,hi,hr,f,o0]
theorem dS{c:Nat->Int}(x:Nat->Int){M A:Int}(hM:EK (dC x 16)=M)(hZ:Bp M=A)(hk:Ct c=0){k:Nat}(h:k<16)(b:Bool):AA c (cn c x M A k) ⟨c 25,true,dB (x k),b⟩=(cn c x M A (k+1),cu A k):=by
 have ln:=dE x k
 have hm:=dy x hk k b
 have hz:=eK x k
 by_cases h15:k=15
 ·have e:(dC x k).length=15:=by omega
  have hz':dC x (k+1)=dC x 16:=by rw[h15]
  have e1:Fy (dC x k)=true:=decide_eq_true e
  have e2:Dx (v3 0 0 0) (dC x k) (dB (x k))=v3 A 0 0:=by unfold Dx;rw[if_pos e];unfold V9;rw[<-hz,hz',hM,hZ]
  have e3:Ng c (v6 0 0 0 0 0 0) (dC x k)=v6 (c 8) 0 0 (c 9) 0 (c 10):=by unfold Ng;rw[if_pos e]
  have e4:NC 0 false (dC x k) (dB (x k))=M:=by unfold NC;rw[if_pos ⟨e,rfl⟩];unfold V9;rw[<-hz,hz',hM]
  have e5:NK false (dC x k)=true:=by unfold NK;rw[decide_eq_true e];rfl
  have s1:cn c x M A k=⟨v3 0 0 0,v6 0 0 0 0 0 0,0,0,dC x k,0,false,0,0⟩:=if_pos h
  have s2:cn c x M A (k+1)=⟨v3 A 0 0,v6 (c 8) 0 0 (c 9) 0 (c 10),0,0,[],M,true,1,0⟩:=if_neg en
  have s3:cu A k=⟨1,true,true,false,false,false,BB A,0,0⟩:=if_neg en
  rw[s1,s2,s3]
  unfold AA
  rw[hm,e1,e2,e3,e4,e5,if_pos rfl]
  exact d_ hk _ _ _ _ _ _ _ _
 have e: ¬(dC x k).length=15:=by omega
 have e1:Fy (dC x k)=false:=decide_eq_false e
 have e2:Dx (v3 0 0 0) (dC x k) (dB (x k))=v3 0 0 0:=by unfold Dx;rw[if_neg e]
 have e3:Ng c (v6 0 0 0 0 0 0) (dC x k)=v6 0 0 0 0 0 0:=by unfold Ng;rw[if_neg e]
 have e4:NC 0 false (dC x k) (dB (x k))=0:=by unfold NC;rw[if_neg (λq=>e q.1)]
 have e5:NK false (dC x k)=false:=by unfold NK;rw[decide_eq_false e];rfl
 have s1:cn c x M A k=⟨v3 0 0 0,v6 0 0 0 0 0 0,0,0,dC x k,0,false,0,0⟩:=if_pos h
 have s2:cn c x M A (k+1)=⟨v3 0 0 0,v6 0 0 0 0 0 0,0,0,dC x (k+1),0,false,0,0⟩:=if_pos en
 have s3:cu A k=td0:=if_pos en
 rw[s1,s2,s3,hz]
 unfold AA
 rw[hm,e1,e2,e3,e4,e5,if_neg (by simp)]
 exact eJ hk _ _ _ _ _
theorem dX{c:Nat->Int}(x:Nat->Int)(M A:Int)(hk:Ct c=0){k:Nat}(h:k<16):ChI c (cn c x M A k) 0:=by
 have o:=Qx hk
 unfold cn
 rw[if_pos h]
 exact⟨Hj (p:=Ai) eo eo eo,OA (p:=Ai) eo eo eo eo eo eo,show Ai 0 by decide,show(0:Int)<=0/\(0:Int)<=((0:Nat):Int) by decide,dZ x k,by show(dC x k).length<=15;rw[dE];omega,show(0:Int)<=0/\(0:Int)<=430515 by decide,(λh=>nomatch h),by show(0:Int)<=0/\(0:Int)<=c 29;omega⟩
theorem eH(c x:Nat->Int)(M A:Int){k:Nat}(h:k=15):(cn c x M A (k+1)).x=v3 A 0 0/\(cn c x M A (k+1)).p=v6 (c 8) 0 0 (c 9) 0 (c 10):=by
 unfold cn;rw[if_neg en];exact⟨rfl,rfl⟩
theorem eX(A:Int){k:Nat}(h:k=15):cu A k=⟨1,true,true,false,false,false,BB A,0,0⟩:=if_neg en
theorem eT(A:Int){k:Nat}(h:k<15):cu A k=td0:=if_pos h
theorem de{x:Nat->Int}{M:Int}(hM:EK (dC x 16)=M){k:Nat}(h:k=15)(b cp:Nat)(w:World)(hb:b<w.heap.size)(hx: ∀(i:Nat)(v:Value),(zL (dF x (k+1)))[i]? =some v->w.cell? ⟨b,i,none⟩=some v):Calls Tryz.prog 16 #[.slice (some ⟨b,0,none⟩) 16 cp] w λe w'=>e=.returned (.tuple #[.int .i64 M,.int .i64 0])/\Below w.heap.size w w':=by
 have q:=dd (dF x (k+1)) b cp (dA x _) (dp x h) w hb hx
 rw[eQ x h,hM]at q;exact q
theorem d4{M A:Int}(hg:Ag M=true)(hZ:Bp M=A)(w:World):Calls Tryz.prog 17 #[.int .i64 M] w λe w'=>e=.returned (.tuple #[.int .i64 A,.int .i64 0])/\Below w.heap.size w w':=by
 have q:=dQ M hg w
 rw[hZ]at q;exact q
theorem dT(x:Nat->Int){M:Int}(hM:EK (dC x 16)=M):Ag M=true:=by
 rw[<-hM,<-eQ x (k:=15) rfl];exact EU (dp x rfl)
def da(u:Nat->Int)(cs:List Value)(o n:Nat):Prop:= ∀i,i<n->cs[o+i]? =some (.int .u8 (u i))
def cz(u:Nat->Int)(n k:Nat):Int:=if k<n then Int.tmod (u k) 20 else 0
theorem dW{u:Nat->Int}(hu: ∀i,0<=u i/\u i<=255)(n k:Nat):0<=cz u n k/\cz u n k<=19:=by
 unfold cz
 split
 ·have a:=Int.tmod_nonneg 20 (hu k).1
  have b:=Int.tmod_lt_of_pos (u k) (b:=20) eo
  omega
 decide
theorem ei{A:Option Addr}{b o n:Nat}(c k:Nat)(hA:0<n->A=some ⟨b,o,none⟩)(h:k<n):IJ Tryz.prog (do pure (.value (<-Instr.indexAt 27 (.slice A n c) (.int .i64 (k:Int))))) (.pointer (some ⟨b,o+k,none⟩)):=by
 obtain rfl:=hA en
 intro W
 have hu:Tryz.prog.underlying 27=some (.slice 5):=by kernel_rfl
 simp[Instr.indexAt,run_underlying hu,asIntOf,h,Addr.add_lit]
theorem ej(es sb:AD){b k o n:Nat}{cs:List Value}{u:Nat->Int}(hm:(b,cs)∈sb∨(b,cs)∈es)(hT:da u cs o n)(hk:k<n):VR Tryz.prog es sb (do pure (.value (<-Instr.loadAt 5 (.pointer (some ⟨b,o+k,none⟩))))) (.int .u8 (u k)):=by
 intro W hW
 have:=OL (P:=Tryz.prog) (ty:=5) (cs:=cs) (off:=o+k) (v:=.int .u8 (u k)) el el (hT k hk) (hm.elim (hW.1 _) (hW.2 _))
 simp[this]
set_option maxRecDepth 1000000 in
set_option maxHeartbeats 8000000 in
theorem ed(A:Option Addr)(u:Nat->Int)(b o n cp k:Nat)(cs:List Value)(hu: ∀i,0<=u i/\u i<=255)(hT:da u cs o n)(hA0:0<n->A=some ⟨b,o,none⟩)(w:World)(hb:b<w.heap.size)(hx: ∀(i:Nat)(v:Value),cs[i]? =some v->w.cell? ⟨b,i,none⟩=some v):Calls Tryz.prog 14 #[.slice A n cp,.int .i64 ((k:Nat):Int)] w (λe w'=>e=.returned (.int .i64 (cz u n k))/\Below w.heap.size w w'):=by
 exact(let B:Base:=(⟨w,λ_=>False⟩:Base);let R:Ending->World->Prop:=(λe w'=>e=.returned (.int .i64 (cz u n k))/\Below w.heap.size w w');AC (f:=14) (B:=B) (R:=R) (es:=[(b,cs)]) (c:=Tryz.f14.body.getD .skip) (tmps:=(Gn [.slice A n cp,vI ((k:Nat):Int)] 13))
  (.s [.c,.c,.v,.c,.c,.c,.c,.v,.v,.v,.v,.c] (.split 8 (.s [.c,.c,.c,.v,.v,.fact (.pointer (some ⟨b,o+k,none⟩)),.ld (.int .u8 (u k)),.v,.v,.setv 14 (vI (Int.tmod (u k) 20)),.v,.c] (.ret [])) (.s [.c,.c,.c,.c,.v,.c] (.ret []))))
  el (Sx.refl w _) (by exact ExX.cons ⟨hb,id,hx⟩ (ExX.nil)) Tryz.func14 el el (Eq.mp el (And.intro (λ(h1:(decide (((k:Nat):Int)<(n:Int)))=true)=>hv (show((k:Nat):Int)<(n:Int)from(by simpa using h1)) (λh1p=>aI (ei cp k hA0 en) (aI (ej [(b,cs)] [] (Or.inr (List.mem_of_getElem? (i:=0) rfl)) hT (k:=k) en) (aI (vE (a:=(IntKind.i64.wrap ((Int.tmod (u k) 20)))) (b:=(Int.tmod (u k) 20)) (BE (by have q:=dW hu n k;unfold cz at q;rw[if_pos (show k<n by omega)]at q;omega))) (aI trivial ((show AO B R [] [] [] [] (vI (Int.tmod (u k) 20))from by
     exactλW hS=>⟨by rw[show cz u n k=Int.tmod (u k) 20 from if_pos en],hS.bl⟩))))))) (λ(h2:(decide (((k:Nat):Int)<(n:Int)))=false)=>hv (show¬(((k:Nat):Int)<(n:Int))from(by simpa using h2)) (λh2p=>aI trivial ((show AO B R [] [] [] [] (vI 0)from by
     exactλW hS=>⟨by rw[show cz u n k=0 from if_neg en],hS.bl⟩)))))))
end
end Go.Proofs.YtikajapjkdloaaaGreatDoor
