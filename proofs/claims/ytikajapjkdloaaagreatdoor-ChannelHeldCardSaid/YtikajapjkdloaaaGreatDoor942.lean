/- Layer 20 (channel): steps one behind the other; the chapter's example. -/
import Derived.Test.YtikajapjkdloaaaGreatDoor941
namespace Go.Proofs.YtikajapjkdloaaaGreatDoor
open Go.RowKit
set_option linter.unusedSimpArgs false
set_option linter.unusedVariables false
def P4(a b c:Nat):Nat->Nat
 |0=>a
 |1=>b
 |_=>c
def T8(a b c d e:Nat):Nat->Nat
 |0=>a
 |1=>b
 |2=>c
 |3=>d
 |_=>e
def AB(c:Nat->Int)(T:Nat->Tk):Nat->Chs
 |0=>S0
 |k+1=>(AA c (AB c T k) (T k)).1
def Am(c:Nat->Int)(T:Nat->Tk)(k:Nat):Td:=(AA c (AB c T k) (T k)).2
def Ev(c:Nat->Int)(T:Nat->Tk):Nat->Td
 |0=>⟨0,false,false,false,false,false,0,0,0⟩
 |k+1=>Am c T k
theorem C6{c:Nat->Int}(T:Nat->Tk)(hc: ∀i,Ai (c i))(hk:Ct c=0): ∀k,ChI c (AB c T k) k:=by
 intro k
 induction k with
 |zero=>exact Ey c hk
 |succ k ih=>exact MP (T k) hc hk ih
theorem GW(a b:Td):Jv Tryz.prog 36 a.val b.val (decide (a=b)):=by
 have h:Uq Tryz.prog 10000 36 a.val b.val=some ((a.mo==b.mo)&&((a.va==b.va)&&((a.ac==b.ac)&&((a.re==b.re)&&((a.he==b.he)&&((a.gr==b.gr)&&((a.al==b.al)&&((a.sp==b.sp)&&((a.bi==b.bi)&&true))))))))):=by kernel_rfl
 have e:((a.mo==b.mo)&&((a.va==b.va)&&((a.ac==b.ac)&&((a.re==b.re)&&((a.he==b.he)&&((a.gr==b.gr)&&((a.al==b.al)&&((a.sp==b.sp)&&((a.bi==b.bi)&&true)))))))))=decide (a=b):=by
  rw[Bool.eq_iff_iff];cases a;cases b;simp
 rw[<-e];exact VI h
def KE:Nat->Int:= λi=>([1024,65536,256,16384,4194304,4096,274877906944,4398046511104,4398046511104,1099511627776,68719476736,256,256,256,1125899906842624,281474976710656,17592186044416,18014398509481984,562949953421312,8796093022208,9,34359738368,17179869184,-1073741824,536870912,2048,32768,32,64,1280,240]:List Int).getD i 0
theorem Qp(i:Nat):Ai (KE i):=by
 by_cases h:i<31
 ·have: ∀j,j<31->(-9223372036854775808<=KE j/\KE j<=9223372036854775807):=by decide
  exact this i h
 have:KE i=0:=by unfold KE;rw[List.getD_eq_getElem?_getD,List.getElem?_eq_none (by simp;omega)];rfl
 rw[this];decide
theorem TJ:Ct KE=0:=by decide+kernel
theorem KI(c:Nat->Int)(hd:c=KE)(w:World):Calls Tryz.prog 30 #[] w λe w'=>e=.returned (cA c)/\Below w.heap.size w w':=by
 subst hd;exact Lf w
def TF:Nat->Tk:= λ_=>⟨2048,true,405300,false⟩
theorem NW:Ev KE TF 16=⟨1,true,true,false,false,false,0,0,0⟩:=by kernel_rfl
abbrev We(c:Nat->Int)(X11:Lt):Chs×Td:=(AA c (AB c TF X11.k) (⟨2048,true,405300,false⟩:Tk))
abbrev Xq(c:Nat->Int)(X11:Lt):Array Value:=#[vI (((We c X11).2).mo),.bool (((We c X11).2).va),.bool (((We c X11).2).ac),.bool (((We c X11).2).re),.bool (((We c X11).2).he),.bool (((We c X11).2).gr),vI (((We c X11).2).al),vI (((We c X11).2).sp),vI (((We c X11).2).bi)]
abbrev Xv(c:Nat->Int)(X11:Lt):List Value:=[vI ((Ev c TF X11.k).mo),.bool ((Ev c TF X11.k).va),.bool ((Ev c TF X11.k).ac),.bool ((Ev c TF X11.k).re),.bool ((Ev c TF X11.k).he),.bool ((Ev c TF X11.k).gr),vI ((Ev c TF X11.k).al),vI ((Ev c TF X11.k).sp),vI ((Ev c TF X11.k).bi)]
set_option maxRecDepth 1000000 in
set_option maxHeartbeats 8000000 in
theorem LY(c:Nat->Int)(hc: ∀i,Ai (c i))(hk:Ct c=0)(hd:c=KE)(hf:Ev c TF 16=⟨1,true,true,false,false,false,0,0,0⟩)(w:World)(hA:GA w):Calls Tryz.prog 12 #[] w (λe w'=>e=.returned (.bool true)/\Below w.heap.size w w'):=by
 have hn:=NA.nf
 exact(let B:Base:=(⟨w,λ_=>False⟩:Base);let R:Ending->World->Prop:=(λe w'=>e=.returned (.bool true)/\Below w.heap.size w w');let I12:Lt->Prop:= λζ=>ζ.k<=16;let M13:Lt->Nat:= λζ=>16-ζ.k;let S14:(Nat->Nat)->(Nat)->Lt->SD:= λ(P1:Nat->Nat)(r7:Nat)=> λζ=>(⟨#[vF,vP (P1 0),vI 0,vP r7,.tuple #[vP (P1 0),vI 0],(cA c),.tuple #[vP (P1 0),vI 0],vP (P1 0),vI 0,vI 0,vF,vF,vP (P1 0),vF,vF,vI ((ζ.k:Nat):Int),(ζ.u 16),(ζ.u 17),(ζ.u 18),(ζ.u 19),(ζ.u 20),vN,vN,vN],[((P1 0),(Af ((AB c TF ζ.k).x) ((AB c TF ζ.k).p) c (P1 1) (P1 2) (fv (AB c TF ζ.k).zs (ζ.r 0) (ζ.r 2)) ((AB c TF ζ.k).m) ((AB c TF ζ.k).s))),((P1 1),(AG ((AB c TF ζ.k).la) ((AB c TF ζ.k).ru) c)),((P1 2),(Ak c ((AB c TF ζ.k).gc) ((AB c TF ζ.k).kn))),((ζ.r 0),(zL (AB c TF ζ.k).zs)),((P1 4),[]),(r7,[vI ((Ev c TF ζ.k).mo),.bool ((Ev c TF ζ.k).va),.bool ((Ev c TF ζ.k).ac),.bool ((Ev c TF ζ.k).re),.bool ((Ev c TF ζ.k).he),.bool ((Ev c TF ζ.k).gr),vI ((Ev c TF ζ.k).al),vI ((Ev c TF ζ.k).sp),vI ((Ev c TF ζ.k).bi)])],[],[(3,(Ao (AB c TF ζ.k).zs (ζ.r 1)),(An (AB c TF ζ.k).zs (ζ.r 2))),(4,Ad,31),(5,36,9)],[]⟩:SD);let Z32:(Lt)->(Nat->Nat)->(Nat->Nat)->Lt:= λ(X11:Lt)(P1:Nat->Nat)(P23:Nat->Nat)=>(⟨X11.k+1,λ_=>0,lu [(16,[vT,vP (P1 0),.agg #[vI 2048,vT,vI 405300,vF],.agg (Xq c X11),vI ((X11.k+1:Nat):Int)])],λ_=>(none,0),λi=>match i with|0=>(P23 0)|1=>(P23 1)|2=>(P23 2)|_=>0,λ_=>[]⟩:Lt);AC (f:=12) (B:=B) (R:=R) (es:=[]) (c:=Tryz.f12.body.getD .skip) (tmps:=#[vN,vN,vN,vN,vN,vN,vN,vN,vN,vN,vN,vN,vN,vN,vN,vN,vN,vN,vN,vN,vN,vN,vN,vN])
  (.s [.c,.c,.v,.c,.c,.c,.call ((cA c))] (.mut (λ(P1:Nat->Nat)=>(.tuple #[vP (P1 0),vI 0],[((P1 0),(Af S0.x S0.p c (P1 1) (P1 2) (fv S0.zs (P1 3) 31) S0.m S0.s)),((P1 1),(AG S0.la S0.ru c)),((P1 2),(Ak c S0.gc S0.kn)),((P1 3),(zL S0.zs)),((P1 4),[])],[(3,(Ao S0.zs Ad),(An S0.zs 31)),(4,Ad,31)])) (λP1=>.s [.v,.v,.v,.v,.v,.c,.c,.c,.c,.v,.v,.v,.v,.v,.v,.c,.c,.c,.c,.c] (.new (λr7=>.s [.c,.c,.c,.c,.v,.c,.c,.c] (.loop (σ:=Lt) I12 M13 (S14 P1 r7) (λX11=>.s [.c,.c,.v,.c,.c] (.split 16 (.s [.c,.c,.c,.c,.c,.v,.v] (.mut (λ(P23:Nat->Nat)=>(.agg (Xq c X11),[((P1 0),(Af (((We c X11).1).x) (((We c X11).1).p) c (P1 1) (P1 2) (fv ((We c X11).1).zs (P23 0) (P23 2)) (((We c X11).1).m) (((We c X11).1).s))),((P1 1),(AG (((We c X11).1).la) (((We c X11).1).ru) c)),((P1 2),(Ak c (((We c X11).1).gc) (((We c X11).1).kn))),((P23 0),(zL ((We c X11).1).zs)),((P1 4),[]),(r7,(Xv c X11))],[(4,Ad,31),(5,36,9),(3,(Ao ((We c X11).1).zs (P23 1)),(An ((We c X11).1).zs (P23 2)))])) (λP23=>.s [.put 5] (.s [.c,.c,.c,.v,.setv 20 (vI ((X11.k+1:Nat):Int)),.v,.c,.c] (.again 0))))) (.s [.c,.c,.c,.c,.own 5,.v,.eq (decide ((Ev c TF X11.k)=(⟨1,true,true,false,false,false,0,0,0⟩:Td))),.v,.c] (.ret []))))))))))
  (by kernel_rfl) (Sx.refl w _) ExX.nil Tryz.func12 (by kernel_rfl) (by kernel_rfl) (Eq.mp (by kernel_rfl) (aI (cv B [] [] [] [] ((λW hS=>KI c hd W))) (aI (CallMX.of (B:=B) (bs:=[]) (rs:=[]) (os:=[]) (ks:=[]) (bs0:=[]) (rs0:=[]) (os0:=[]) (V:= λρ=>.tuple #[.pointer (some ⟨(ρ 0),0,none⟩),vI 0]) (bs1:= λρ=>[((ρ 0),(Af S0.x S0.p c (ρ 1) (ρ 2) (fv S0.zs (ρ 3) 31) S0.m S0.s)),((ρ 1),(AG S0.la S0.ru c)),((ρ 2),(Ak c S0.gc S0.kn)),((ρ 3),(zL S0.zs)),((ρ 4),[])]) (rs1:= λρ=>[(3,(Ao S0.zs Ad),(An S0.zs 31)),(4,Ad,31)]) [0,1,2,3,4] (λW hW hH=>(D9 c hc hk W).mono (λe' w' h=>h.elim λa1 h=>h.elim λa2 h=>h.elim λa3 h=>h.elim λa4 h=>h.elim λa5 h=>⟨T8 a1 a2 a3 a4 a5,h.1,h.2.nb⟩)) rfl rfl (by decide) (λ_ h=>by cases h) (List.nil_sublist _) (λ_=>rfl) (by decide) (λ_=>rfl)) (λ(P1:Nat->Nat)=>And.intro trivial (λ(r7:Nat)=>And.intro (Ij I12 (S14 P1 r7) ((⟨0,λ_=>0,λ_=>vN,λ_=>(none,0),λi=>match i with|0=>(P1 3)|1=>Ad|2=>31|_=>0,λ_=>[]⟩:Lt)) (show(⟨0,λ_=>0,λ_=>vN,λ_=>(none,0),λi=>match i with|0=>(P1 3)|1=>Ad|2=>31|_=>0,λ_=>[]⟩:Lt).k<=16 from by(exact Nat.zero_le _)) [] [] [(3,(Ao S0.zs Ad),(An S0.zs 31)),(4,Ad,31),(5,36,9)] (by first|exactλ_ h=>h|(simp[S14];done)|(simp[S14];repeat' (first|rfl|apply And.intro))) (by first|exactλ_ h=>h|(simp[S14];done)|(simp[S14];repeat' (first|rfl|apply And.intro))) (by kernel_rfl)) (λ(X11:Lt)(hI0:X11.k<=16)=>hv (hI0) (λKK=>let e16:Nat×List Value:=((P1 0),(Af ((AB c TF X11.k).x) ((AB c TF X11.k).p) c (P1 1) (P1 2) (fv (AB c TF X11.k).zs (X11.r 0) (X11.r 2)) ((AB c TF X11.k).m) ((AB c TF X11.k).s)));let e17:Nat×List Value:=((P1 1),(AG ((AB c TF X11.k).la) ((AB c TF X11.k).ru) c));let e18:Nat×List Value:=((P1 2),(Ak c ((AB c TF X11.k).gc) ((AB c TF X11.k).kn)));let e19:Nat×List Value:=((X11.r 0),(zL (AB c TF X11.k).zs));let e20:Nat×List Value:=(r7,(Xv c X11));let bs15:AD:=[e16,e17,e18,e19,((P1 4),[]),e20];let rs21:Aw:=[(3,(Ao (AB c TF X11.k).zs (X11.r 1)),(An (AB c TF X11.k).zs (X11.r 2))),(4,Ad,31),(5,36,9)];And.intro (λ(h22:(decide (((X11.k:Nat):Int)<16))=true)=>hv (show((X11.k:Nat):Int)<16 from(by simpa using h22)) (λh22p=>aI (CallMX.of (B:=B) (bs:=bs15) (rs:=rs21) (os:=[]) (ks:=[0,1,2,3]) (bs0:=[((P1 0),(Af ((AB c TF X11.k).x) ((AB c TF X11.k).p) c (P1 1) (P1 2) (fv (AB c TF X11.k).zs (X11.r 0) (X11.r 2)) ((AB c TF X11.k).m) ((AB c TF X11.k).s))),((P1 1),(AG ((AB c TF X11.k).la) ((AB c TF X11.k).ru) c)),((P1 2),(Ak c ((AB c TF X11.k).gc) ((AB c TF X11.k).kn))),((X11.r 0),(zL (AB c TF X11.k).zs))]) (rs0:=[(3,(Ao (AB c TF X11.k).zs (X11.r 1)),(An (AB c TF X11.k).zs (X11.r 2)))]) (os0:=[]) (V:= λρ=>.agg (Xq c X11)) (bs1:= λρ=>[((P1 0),(Af (((We c X11).1).x) (((We c X11).1).p) c (P1 1) (P1 2) (fv ((We c X11).1).zs (ρ 0) (ρ 2)) (((We c X11).1).m) (((We c X11).1).s))),((P1 1),(AG (((We c X11).1).la) (((We c X11).1).ru) c)),((P1 2),(Ak c (((We c X11).1).gc) (((We c X11).1).kn))),((ρ 0),(zL ((We c X11).1).zs))]) (rs1:= λρ=>[(3,(Ao ((We c X11).1).zs (ρ 1)),(An ((We c X11).1).zs (ρ 2)))]) [6,7,8,9,4,5] (λW hW hH=>(CJ (P1 0) (P1 1) (P1 2) (X11.r 0) c (AB c TF X11.k) X11.k (X11.r 1) (X11.r 2) (⟨2048,true,405300,false⟩:Tk) hc hk (C6 TF hc hk _) (by omega) W hH (hA.of hW hn) (hW.freshA hA hn (ks:=[0,1,2,3]) rfl (List.Sublist.refl _))).mono (λe' w' h=>h.elim λr' h=>h.elim λe1 h=>h.elim λn' h=>⟨P4 r' e1 n',h⟩)) rfl rfl (by decide) (by intro r h;obtain rfl:=List.mem_singleton.1 h;exact⟨3,rfl,by simp[rs21]⟩) (List.nil_sublist _) (λ_=>rfl) (by decide) (λ_=>rfl)) (λ(P23:Nat->Nat)=>And.intro trivial (aI (FV r7) (aI trivial (aI (vE (a:=(IntKind.i64.wrap (((X11.k:Nat):Int)+1))) (b:=((X11.k+1:Nat):Int)) (by rw[BE (by omega)];rfl)) ((FY (Ax 16 [false] [.code (Tryz.f12.body.getD .skip)]) I12 M13 (S14 P1 r7) X11 ((Z32 X11 P1 P23)) (show(Z32 X11 P1 P23).k<=16 from by(show X11.k+1<=16);(omega)) (show(16-(Z32 X11 P1 P23).k)<(16-X11.k)from by(show 16-(X11.k+1)<16-X11.k);(omega)) [] [] [(4,Ad,31),(5,36,9),(3,(Ao ((We c X11).1).zs (P23 1)),(An ((We c X11).1).zs (P23 2)))] (by first|exactλ_ h=>h|(simp[S14];done)|(simp[S14];repeat' (first|rfl|apply And.intro))) (by first|exactλ_ h=>h|(simp[S14];done)|(simp[S14];repeat' (first|rfl|apply And.intro))) (by kernel_rfl))))))))) (λ(h33:(decide (((X11.k:Nat):Int)<16))=false)=>hv (show¬(((X11.k:Nat):Int)<16)from(by simpa using h33)) (λh33p=>aI (Eq.refl r7) (aI (show Jv Tryz.prog 36 (.agg #[vI ((Ev c TF X11.k).mo),.bool ((Ev c TF X11.k).va),.bool ((Ev c TF X11.k).ac),.bool ((Ev c TF X11.k).re),.bool ((Ev c TF X11.k).he),.bool ((Ev c TF X11.k).gr),vI ((Ev c TF X11.k).al),vI ((Ev c TF X11.k).sp),vI ((Ev c TF X11.k).bi)]) (.agg #[vI 1,vT,vT,vF,vF,vF,vI 0,vI 0,vI 0]) (decide ((Ev c TF X11.k)=(⟨1,true,true,false,false,false,0,0,0⟩:Td)))from(GW (Ev c TF X11.k) (⟨1,true,true,false,false,false,0,0,0⟩:Td))) (aI trivial ((show AO B R bs15 [] rs21 [] (.bool (decide ((Ev c TF X11.k)=(⟨1,true,true,false,false,false,0,0,0⟩:Td))))from by
      exactλW hS=>⟨by rw[show Ev c TF X11.k=⟨1,true,true,false,false,false,0,0,0⟩from(by rw[show X11.k=16 by omega];exact hf)];rfl,hS.bl⟩))))))))))))))
theorem BO(w:World)(hA:GA w):Calls Tryz.prog 12 #[] w λe w'=>e=.returned (.bool true)/\Below w.heap.size w w':=
 LY KE Qp TJ rfl NW w hA
end Go.Proofs.YtikajapjkdloaaaGreatDoor
