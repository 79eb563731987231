/- Layer 20 (channel): steps one behind the other; the chapter's example. -/
import Derived.Test.YtikajapjkdloaaaGreatDoor944
import Derived.ProofKit
import Derived.OpenShut
import Derived.Below
import Derived.Carry
import Derived.ReadAgain
import Derived.Lib.SmallJoins
import Derived.Deep.DeepHandedRow
import Derived.LaidMore
import Derived.LaidLaws
import Derived.Stop.Joined
import Derived.Lib.LaidTab
import Derived.Test.YtikajapjkdloaaaGreatDoorCards
import Derived.Test.YtikajapjkdloaaaGreatDoorTie
namespace Go.Proofs.YtikajapjkdloaaaGreatDoor
set_option linter.unusedVariables false
set_option linter.unusedSimpArgs false
section
open Go.RowKit
def P4(a b c:Nat):Nat->Nat
 |0=>a
 |1=>b
 |_=>c
def T8(a b c d e:Nat):Nat->Nat
 |0=>a
 |1=>b
 |2=>c
 |3=>d
 |_=>e
def AB(c:Nat->Int)(T:Nat->Tk):Nat->Chs
 |0=>S0
 |k+1=>(AA c (AB c T k) (T k)).1
def Am(c:Nat->Int)(T:Nat->Tk)(k:Nat):Td:=(AA c (AB c T k) (T k)).2
def Ev(c:Nat->Int)(T:Nat->Tk):Nat->Td
 |0=>⟨0,false,false,false,false,false,0,0,0⟩
 |k+1=>Am c T k
theorem C6{c:Nat->Int}(T:Nat->Tk)(hc: ∀i,Ai (c i))(hk:Ct c=0): ∀k,ChI c (AB c T k) k:=by
 intro k
 induction k with
 |zero=>exact Ey c hk
 |succ k ih=>exact MP (T k) hc hk ih
theorem GW(a b:Td):Jv Tryz.prog 36 a.val b.val (decide (a=b)):=by
 have h:Uq Tryz.prog 10000 36 a.val b.val=some ((a.mo==b.mo)&&((a.va==b.va)&&((a.ac==b.ac)&&((a.re==b.re)&&((a.he==b.he)&&((a.gr==b.gr)&&((a.al==b.al)&&((a.sp==b.sp)&&((a.bi==b.bi)&&true))))))))):=by kernel_rfl
 have e:((a.mo==b.mo)&&((a.va==b.va)&&((a.ac==b.ac)&&((a.re==b.re)&&((a.he==b.he)&&((a.gr==b.gr)&&((a.al==b.al)&&((a.sp==b.sp)&&((a.bi==b.bi)&&true)))))))))=decide (a=b):=by
  rw[Bool.eq_iff_iff];cases a;cases b;simp
 rw[<-e];exact VI h
def KE:Nat->Int:= λi=>([1024,65536,256,16384,4194304,4096,274877906944,4398046511104,4398046511104,1099511627776,68719476736,256,256,256,1125899906842624,281474976710656,17592186044416,18014398509481984,562949953421312,8796093022208,9,34359738368,17179869184,-1073741824,536870912,2048,32768,32,64,1280,240]:List Int).getD i 0
theorem Qp(i:Nat):Ai (KE i):=by
 by_cases h:i<31
 ·have: ∀j,j<31->(-9223372036854775808<=KE j/\KE j<=9223372036854775807):=by decide
  exact this i h
 have:KE i=0:=by unfold KE;rw[List.getD_eq_getElem?_getD,List.getElem?_eq_none (by simp;omega)];rfl
 rw[this];decide
theorem TJ:Ct KE=0:=by decide+kernel
theorem KI(c:Nat->Int)(hd:c=KE)(w:World):Calls Tryz.prog 30 #[] w λe w'=>e=.returned (cA c)/\Below w.heap.size w w':=by
 subst hd;exact Lf w
def TF:Nat->Tk:= λ_=>⟨2048,true,405300,false⟩
theorem NW:Ev KE TF 16=⟨1,true,true,false,false,false,0,0,0⟩:=by kernel_rfl
abbrev We(c:Nat->Int)(X11:Lt):Chs×Td:=(AA c (AB c TF X11.k) (⟨2048,true,405300,false⟩:Tk))
abbrev Xq(c:Nat->Int)(X11:Lt):Array Value:=#[vI (((We c X11).2).mo),.bool (((We c X11).2).va),.bool (((We c X11).2).ac),.bool (((We c X11).2).re),.bool (((We c X11).2).he),.bool (((We c X11).2).gr),vI (((We c X11).2).al),vI (((We c X11).2).sp),vI (((We c X11).2).bi)]
abbrev Xv(c:Nat->Int)(X11:Lt):List Value:=[vI ((Ev c TF X11.k).mo),.bool ((Ev c TF X11.k).va),.bool ((Ev c TF X11.k).ac),.bool ((Ev c TF X11.k).re),.bool ((Ev c TF X11.k).he),.bool ((Ev c TF X11.k).gr),vI ((Ev c TF X11.k).al),vI ((Ev c TF X11.k).sp),vI ((Ev c TF X11.k).bi)]
set_option maxRecDepth 1000000 in
set_option maxHeartbeats 8000000 in
theorem LY(c:Nat->Int)(hc: ∀i,Ai (c i))(hk:Ct c=0)(hd:c=KE)(hf:Ev c TF 16=⟨1,true,true,false,false,false,0,0,0⟩)(w:World)(hA:GA w):Calls Tryz.prog 12 #[] w (λe w'=>e=.returned (.bool true)/\Below w.heap.size w w'):=by
 have hn:=NA.nf
 exact(let B:Base:=(⟨w,λ_=>False⟩:Base);let R:Ending->World->Prop:=(λe w'=>e=.returned (.bool true)/\Below w.heap.size w w');let I12:Lt->Prop:= λζ=>ζ.k<=16;let M13:Lt->Nat:= λζ=>16-ζ.k;let S14:(Nat->Nat)->(Nat)->Lt->SD:= λ(P1:Nat->Nat)(r7:Nat)=> λζ=>(⟨#[vF,vP (P1 0),vI 0,vP r7,.tuple #[vP (P1 0),vI 0],(cA c),.tuple #[vP (P1 0),vI 0],vP (P1 0),vI 0,vI 0,vF,vF,vP (P1 0),vF,vF,vI ((ζ.k:Nat):Int),(ζ.u 16),(ζ.u 17),(ζ.u 18),(ζ.u 19),(ζ.u 20),vN,vN,vN],[((P1 0),(Af ((AB c TF ζ.k).x) ((AB c TF ζ.k).p) c (P1 1) (P1 2) (fv (AB c TF ζ.k).zs (ζ.r 0) (ζ.r 2)) ((AB c TF ζ.k).m) ((AB c TF ζ.k).s))),((P1 1),(AG ((AB c TF ζ.k).la) ((AB c TF ζ.k).ru) c)),((P1 2),(Ak c ((AB c TF ζ.k).gc) ((AB c TF ζ.k).kn))),((ζ.r 0),(zL (AB c TF ζ.k).zs)),((P1 4),[]),(r7,[vI ((Ev c TF ζ.k).mo),.bool ((Ev c TF ζ.k).va),.bool ((Ev c TF ζ.k).ac),.bool ((Ev c TF ζ.k).re),.bool ((Ev c TF ζ.k).he),.bool ((Ev c TF ζ.k).gr),vI ((Ev c TF ζ.k).al),vI ((Ev c TF ζ.k).sp),vI ((Ev c TF ζ.k).bi)])],[],[(3,(Ao (AB c TF ζ.k).zs (ζ.r 1)),(An (AB c TF ζ.k).zs (ζ.r 2))),(4,Ad,31),(5,36,9)],[]⟩:SD);let Z32:(Lt)->(Nat->Nat)->(Nat->Nat)->Lt:= λ(X11:Lt)(P1:Nat->Nat)(P23:Nat->Nat)=>(⟨X11.k+1,λ_=>0,lu [(16,[vT,vP (P1 0),.agg #[vI 2048,vT,vI 405300,vF],.agg (Xq c X11),vI ((X11.k+1:Nat):Int)])],λ_=>(none,0),λi=>match i with|0=>(P23 0)|1=>(P23 1)|2=>(P23 2)|_=>0,λ_=>[]⟩:Lt);AC (f:=12) (B:=B) (R:=R) (es:=[]) (c:=Tryz.f12.body.getD .skip) (tmps:=#[vN,vN,vN,vN,vN,vN,vN,vN,vN,vN,vN,vN,vN,vN,vN,vN,vN,vN,vN,vN,vN,vN,vN,vN])
  (.s [.c,.c,.v,.c,.c,.c,.call ((cA c))] (.mut (λ(P1:Nat->Nat)=>(.tuple #[vP (P1 0),vI 0],[((P1 0),(Af S0.x S0.p c (P1 1) (P1 2) (fv S0.zs (P1 3) 31) S0.m S0.s)),((P1 1),(AG S0.la S0.ru c)),((P1 2),(Ak c S0.gc S0.kn)),((P1 3),(zL S0.zs)),((P1 4),[])],[(3,(Ao S0.zs Ad),(An S0.zs 31)),(4,Ad,31)])) (λP1=>.s [.v,.v,.v,.v,.v,.c,.c,.c,.c,.v,.v,.v,.v,.v,.v,.c,.c,.c,.c,.c] (.new (λr7=>.s [.c,.c,.c,.c,.v,.c,.c,.c] (.loop (σ:=Lt) I12 M13 (S14 P1 r7) (λX11=>.s [.c,.c,.v,.c,.c] (.split 16 (.s [.c,.c,.c,.c,.c,.v,.v] (.mut (λ(P23:Nat->Nat)=>(.agg (Xq c X11),[((P1 0),(Af (((We c X11).1).x) (((We c X11).1).p) c (P1 1) (P1 2) (fv ((We c X11).1).zs (P23 0) (P23 2)) (((We c X11).1).m) (((We c X11).1).s))),((P1 1),(AG (((We c X11).1).la) (((We c X11).1).ru) c)),((P1 2),(Ak c (((We c X11).1).gc) (((We c X11).1).kn))),((P23 0),(zL ((We c X11).1).zs)),((P1 4),[]),(r7,(Xv c X11))],[(4,Ad,31),(5,36,9),(3,(Ao ((We c X11).1).zs (P23 1)),(An ((We c X11).1).zs (P23 2)))])) (λP23=>.s [.put 5] (.s [.c,.c,.c,.v,.setv 20 (vI ((X11.k+1:Nat):Int)),.v,.c,.c] (.again 0))))) (.s [.c,.c,.c,.c,.own 5,.v,.eq (decide ((Ev c TF X11.k)=(⟨1,true,true,false,false,false,0,0,0⟩:Td))),.v,.c] (.ret []))))))))))
  (by kernel_rfl) (Sx.refl w _) ExX.nil Tryz.func12 (by kernel_rfl) (by kernel_rfl) (Eq.mp (by kernel_rfl) (aI (cv B [] [] [] [] ((λW hS=>KI c hd W))) (aI (CallMX.of (B:=B) (bs:=[]) (rs:=[]) (os:=[]) (ks:=[]) (bs0:=[]) (rs0:=[]) (os0:=[]) (V:= λρ=>.tuple #[.pointer (some ⟨(ρ 0),0,none⟩),vI 0]) (bs1:= λρ=>[((ρ 0),(Af S0.x S0.p c (ρ 1) (ρ 2) (fv S0.zs (ρ 3) 31) S0.m S0.s)),((ρ 1),(AG S0.la S0.ru c)),((ρ 2),(Ak c S0.gc S0.kn)),((ρ 3),(zL S0.zs)),((ρ 4),[])]) (rs1:= λρ=>[(3,(Ao S0.zs Ad),(An S0.zs 31)),(4,Ad,31)]) [0,1,2,3,4] (λW hW hH=>(D9 c hc hk W).mono (λe' w' h=>h.elim λa1 h=>h.elim λa2 h=>h.elim λa3 h=>h.elim λa4 h=>h.elim λa5 h=>⟨T8 a1 a2 a3 a4 a5,h.1,h.2.nb⟩)) rfl rfl (by decide) (λ_ h=>by cases h) (List.nil_sublist _) (λ_=>rfl) (by decide) (λ_=>rfl)) (λ(P1:Nat->Nat)=>And.intro trivial (λ(r7:Nat)=>And.intro (Ij I12 (S14 P1 r7) ((⟨0,λ_=>0,λ_=>vN,λ_=>(none,0),λi=>match i with|0=>(P1 3)|1=>Ad|2=>31|_=>0,λ_=>[]⟩:Lt)) (show(⟨0,λ_=>0,λ_=>vN,λ_=>(none,0),λi=>match i with|0=>(P1 3)|1=>Ad|2=>31|_=>0,λ_=>[]⟩:Lt).k<=16 from by(exact Nat.zero_le _)) [] [] [(3,(Ao S0.zs Ad),(An S0.zs 31)),(4,Ad,31),(5,36,9)] (by first|exactλ_ h=>h|(simp[S14];done)|(simp[S14];repeat' (first|rfl|apply And.intro))) (by first|exactλ_ h=>h|(simp[S14];done)|(simp[S14];repeat' (first|rfl|apply And.intro))) (by kernel_rfl)) (λ(X11:Lt)(hI0:X11.k<=16)=>hv (hI0) (λKK=>let e16:Nat×List Value:=((P1 0),(Af ((AB c TF X11.k).x) ((AB c TF X11.k).p) c (P1 1) (P1 2) (fv (AB c TF X11.k).zs (X11.r 0) (X11.r 2)) ((AB c TF X11.k).m) ((AB c TF X11.k).s)));let e17:Nat×List Value:=((P1 1),(AG ((AB c TF X11.k).la) ((AB c TF X11.k).ru) c));let e18:Nat×List Value:=((P1 2),(Ak c ((AB c TF X11.k).gc) ((AB c TF X11.k).kn)));let e19:Nat×List Value:=((X11.r 0),(zL (AB c TF X11.k).zs));let e20:Nat×List Value:=(r7,(Xv c X11));let bs15:AD:=[e16,e17,e18,e19,((P1 4),[]),e20];let rs21:Aw:=[(3,(Ao (AB c TF X11.k).zs (X11.r 1)),(An (AB c TF X11.k).zs (X11.r 2))),(4,Ad,31),(5,36,9)];And.intro (λ(h22:(decide (((X11.k:Nat):Int)<16))=true)=>hv (show((X11.k:Nat):Int)<16 from(by simpa using h22)) (λh22p=>aI (CallMX.of (B:=B) (bs:=bs15) (rs:=rs21) (os:=[]) (ks:=[0,1,2,3]) (bs0:=[((P1 0),(Af ((AB c TF X11.k).x) ((AB c TF X11.k).p) c (P1 1) (P1 2) (fv (AB c TF X11.k).zs (X11.r 0) (X11.r 2)) ((AB c TF X11.k).m) ((AB c TF X11.k).s))),((P1 1),(AG ((AB c TF X11.k).la) ((AB c TF X11.k).ru) c)),((P1 2),(Ak c ((AB c TF X11.k).gc) ((AB c TF X11.k).kn))),((X11.r 0),(zL (AB c TF X11.k).zs))]) (rs0:=[(3,(Ao (AB c TF X11.k).zs (X11.r 1)),(An (AB c TF X11.k).zs (X11.r 2)))]) (os0:=[]) (V:= λρ=>.agg (Xq c X11)) (bs1:= λρ=>[((P1 0),(Af (((We c X11).1).x) (((We c X11).1).p) c (P1 1) (P1 2) (fv ((We c X11).1).zs (ρ 0) (ρ 2)) (((We c X11).1).m) (((We c X11).1).s))),((P1 1),(AG (((We c X11).1).la) (((We c X11).1).ru) c)),((P1 2),(Ak c (((We c X11).1).gc) (((We c X11).1).kn))),((ρ 0),(zL ((We c X11).1).zs))]) (rs1:= λρ=>[(3,(Ao ((We c X11).1).zs (ρ 1)),(An ((We c X11).1).zs (ρ 2)))]) [6,7,8,9,4,5] (λW hW hH=>(CJ (P1 0) (P1 1) (P1 2) (X11.r 0) c (AB c TF X11.k) X11.k (X11.r 1) (X11.r 2) (⟨2048,true,405300,false⟩:Tk) hc hk (C6 TF hc hk _) (by omega) W hH (hA.of hW hn) (hW.freshA hA hn (ks:=[0,1,2,3]) rfl (List.Sublist.refl _))).mono (λe' w' h=>h.elim λr' h=>h.elim λe1 h=>h.elim λn' h=>⟨P4 r' e1 n',h⟩)) rfl rfl (by decide) (by intro r h;obtain rfl:=List.mem_singleton.1 h;exact⟨3,rfl,by simp[rs21]⟩) (List.nil_sublist _) (λ_=>rfl) (by decide) (λ_=>rfl)) (λ(P23:Nat->Nat)=>And.intro trivial (aI (FV r7) (aI trivial (aI (vE (a:=(IntKind.i64.wrap (((X11.k:Nat):Int)+1))) (b:=((X11.k+1:Nat):Int)) (by rw[BE (by omega)];rfl)) ((FY (Ax 16 [false] [.code (Tryz.f12.body.getD .skip)]) I12 M13 (S14 P1 r7) X11 ((Z32 X11 P1 P23)) (show(Z32 X11 P1 P23).k<=16 from by(show X11.k+1<=16);(omega)) (show(16-(Z32 X11 P1 P23).k)<(16-X11.k)from by(show 16-(X11.k+1)<16-X11.k);(omega)) [] [] [(4,Ad,31),(5,36,9),(3,(Ao ((We c X11).1).zs (P23 1)),(An ((We c X11).1).zs (P23 2)))] (by first|exactλ_ h=>h|(simp[S14];done)|(simp[S14];repeat' (first|rfl|apply And.intro))) (by first|exactλ_ h=>h|(simp[S14];done)|(simp[S14];repeat' (first|rfl|apply And.intro))) (by kernel_rfl))))))))) (λ(h33:(decide (((X11.k:Nat):Int)<16))=false)=>hv (show¬(((X11.k:Nat):Int)<16)from(by simpa using h33)) (λh33p=>aI (Eq.refl r7) (aI (show Jv Tryz.prog 36 (.agg #[vI ((Ev c TF X11.k).mo),.bool ((Ev c TF X11.k).va),.bool ((Ev c TF X11.k).ac),.bool ((Ev c TF X11.k).re),.bool ((Ev c TF X11.k).he),.bool ((Ev c TF X11.k).gr),vI ((Ev c TF X11.k).al),vI ((Ev c TF X11.k).sp),vI ((Ev c TF X11.k).bi)]) (.agg #[vI 1,vT,vT,vF,vF,vF,vI 0,vI 0,vI 0]) (decide ((Ev c TF X11.k)=(⟨1,true,true,false,false,false,0,0,0⟩:Td)))from(GW (Ev c TF X11.k) (⟨1,true,true,false,false,false,0,0,0⟩:Td))) (aI trivial ((show AO B R bs15 [] rs21 [] (.bool (decide ((Ev c TF X11.k)=(⟨1,true,true,false,false,false,0,0,0⟩:Td))))from by
      exactλW hS=>⟨by rw[show Ev c TF X11.k=⟨1,true,true,false,false,false,0,0,0⟩from(by rw[show X11.k=16 by omega];exact hf)];rfl,hS.bl⟩))))))))))))))
theorem BO(w:World)(hA:GA w):Calls Tryz.prog 12 #[] w λe w'=>e=.returned (.bool true)/\Below w.heap.size w w':=
 LY KE Qp TJ rfl NW w hA
end
section
open Go.RowKit
abbrev Tk.cells(t:Tk):List Value:=[.int .i64 t.a,.bool t.has,.int .i64 t.pr,.bool t.sh]
abbrev Td.cells(t:Td):List Value:=[.int .i64 t.mo,.bool t.va,.bool t.ac,.bool t.re,.bool t.he,.bool t.gr,.int .i64 t.al,.int .i64 t.sp,.int .i64 t.bi]
def Ep(T:Nat->Tk)(cs:List Value)(o n:Nat):Prop:= ∀i,i<n-> ∀j,j<4->cs[o+i*4+j]? =(T i).cells[j]?
theorem Ot{P:Program}{b off n:Nat}{ty:TypeId}{cs L:List Value}{W:World}(hd:(P.underlying ty).map D3=some true)(hi:(P.info? ty).map (·.size)=some n)(hn:L.length=n)(hv: ∀j,j<n->cs[off+j]? =L[j]?)(h0:0<n)
 (hc: ∀i v,cs[i]? =some v->W.cell? ⟨b,i,none⟩=some v):(Instr.loadAt ty (.pointer (some ⟨b,off,none⟩))).run P W=.ok (.agg L.toArray) W:=by
 have hlen:off+n<=cs.length:=by
  have h1:cs[off+(n-1)]? =some (L[n-1]'(by omega)):=(hv (n-1) (by omega)).trans (List.getElem?_eq_getElem (by omega))
  have:=(List.getElem?_eq_some_iff.1 h1).1
  omega
 have he:(cs.drop off).take n=L:=by
  apply List.ext_getElem?
  intro j
  rw[List.getElem?_take,List.getElem?_drop]
  split
  ·rename_i hj;exact hv j hj
  rw[List.getElem?_eq_none (by omega)]
 refine Cc (b:=b) (cs:=cs) (q:=b=b) ?_ rfl hc
 show(match(P.underlying ty).map D3,(P.info? ty).map (·.size)with
  |some true,some n=>if off+n<=cs.length then some (Value.agg ((cs.drop off).take n).toArray,b=b)else none
  |some false,some _=>(cs[off]?).map (·,b=b)
  |_,_=>none)=_
 rw[hd,hi]
 show(if off+n<=cs.length then some (Value.agg ((cs.drop off).take n).toArray,b=b)else none)=_
 rw[if_pos hlen,he]
theorem Dh(b o n c k:Nat)(h:k<n):IJ Tryz.prog (do pure (.value (<-Instr.indexAt 62 (.slice (some ⟨b,o,none⟩) n c) (.int .i64 (k:Int))))) (.pointer (some ⟨b,o+k*4,none⟩)):=by
 intro W
 have hu:Tryz.prog.underlying 62=some (.slice 39):=by kernel_rfl
 simp[Instr.indexAt,run_underlying hu,asIntOf,h,Addr.add_lit]
section
variable {b o n k:Nat} {cs:List Value}
theorem Dd(es sb:AD){T:Nat->Tk}(hm:(b,cs)∈sb∨(b,cs)∈es)(hT:Ep T cs o n)(h:k<n):VR Tryz.prog es sb (do pure (.value (<-Instr.loadAt 39 (.pointer (some ⟨b,o+k*4,none⟩))))) (T k).val:=by
 intro W hW
 have:=Ot (n:=4) (ty:=39) (P:=Tryz.prog) (by kernel_rfl) (by kernel_rfl) (L:=(T k).cells) rfl (λj hj=>hT k h j hj) (by decide) (hm.elim (hW.1 _) (hW.2 _))
 simp[this]
end
abbrev Wk(f:Nat->Int):Value:=.agg #[.int .i64 (f 0),.int .i64 (f 1),.int .i64 (f 2)]
abbrev Wj(f:Nat->Int):Value:=.agg #[.int .i64 (f 0),.int .i64 (f 1),.int .i64 (f 2),.int .i64 (f 3),.int .i64 (f 4),.int .i64 (f 5)]
abbrev XF(f:Nat->Int):List Value:=[.int .i64 (f 0),.int .i64 (f 1),.int .i64 (f 2)]
abbrev XD(f:Nat->Int):List Value:=[.int .i64 (f 0),.int .i64 (f 1),.int .i64 (f 2),.int .i64 (f 3),.int .i64 (f 4),.int .i64 (f 5)]
abbrev WX(c:Nat->Int)(f g r:Nat)(S:Chs)(n:Nat):List Value:=Af S.x S.p c f g (fv S.zs r n) S.m S.s
abbrev WU(c:Nat->Int)(S:Chs):List Value:=AG S.la S.ru c
abbrev WW(c:Nat->Int)(S:Chs):List Value:=Ak c S.gc S.kn
theorem XC{w:World}{bs:AD}{rs:Aw}{c:Nat->Int}(ch f g r:Nat)(S:Chs)(N e0 n:Nat)(t:Tk)(ks idx:List Nat)(hc: ∀i,Ai (c i))(hk:Ct c=0)(hA:GA w)(hI:ChI c S N)(hN:N<=100000)
 (hks:T6 ch f g r c S n=ks.filterMap λi=>bs[i]?)(hkl:ks.all (λk=>decide (k<bs.length))=true)(hnd:ks.Nodup)(hr: ∃k,ks[3]? =some k/\(k,Ao S.zs e0,An S.zs n)∈rs)(hi:idx.all (λi=>decide (i<bs.length+4)&& !ks.contains i)=true)(hin:idx.Nodup):
 CallMX Tryz.prog (⟨w,λ_=>False⟩:Base) bs [] rs [] 15 #[.pointer (some ⟨ch,0,none⟩),t.val] (λρ=>((AA c S t).2.val,EM idx (bs++T6 ch f g (ρ 0) c (AA c S t).1 (ρ 2)),N9 ks bs.length rs (Vf (AA c S t).1 (ρ 1) (ρ 2)) idx)):=
 CallMX.of (ks:=ks) (bs0:=T6 ch f g r c S n) (rs0:=Vf S e0 n) (os0:=[]) (V:= λ_=>(AA c S t).2.val) (bs1:= λρ=>T6 ch f g (ρ 0) c (AA c S t).1 (ρ 2)) (rs1:= λρ=>Vf (AA c S t).1 (ρ 1) (ρ 2)) idx
  (λW hW hH=>(CJ ch f g r c S N e0 n t hc hk hI hN W hH (hA.of hW NA.nf) (hW.freshA hA NA.nf (ks:=ks) hks (List.nil_sublist _))).mono λe' w' h=>h.elim λr' h=>h.elim λe1 h=>h.elim λn' h=>⟨P4 r' e1 n',h⟩)
  hks hkl hnd (λr h=>by obtain rfl:=List.mem_singleton.1 h;exact hr) (List.nil_sublist _) (λ_=>hi) hin (λ_=>rfl)
end
section
open Go.RowKit Go.WideShapes Go.ChangeShapes Go.WideElems
set_option maxRecDepth 100000
theorem Fh:laidOutB Tryz.prog=true:=by kernel_rfl
theorem Kn{H:Type}{enc:TypeId×Value->H}{P:Program}(hl:laidOutB P=true){W W':World}{sp:Nat->Bool}(hb:Below W.heap.size W W'):
 ∀{ts:List TypeId}{vs:List Value}{ds:List (DataW H)}{ps:List MemPlace},(∀t∈ts,P.readableRec t=true/\t<P.types.size)->
  DataW.TrodAll enc P W 0 (λ_=>true) true ts vs ds ps->(∀p∈ps,p.block<W.heap.size)->(∀p∈ps,sp p.block=true)->DataW.TrodAll enc P W' 0 sp true ts vs ds ps
 | [],[],[],_,_,h,_,_=>h
 | [],[],_::_,_,_,h,_,_=>h.elim
 | [],_::_,_,_,_,h,_,_=>h.elim
 |_::_,[],_,_,_,h,_,_=>h.elim
 |_::_,_::_,[],_,_,h,_,_=>h.elim
 |t::ts,v::vs,d::ds,ps,hr,h,hlt,hs=>by
  obtain⟨p,q,h1,h2,e⟩:=h
  have hp: ∀x∈p,x∈ps:= λx hx=>by rw[e];simp[hx]
  have hq: ∀x∈q,x∈ps:= λx hx=>by rw[e];simp[hx]
  exact⟨p,q,Trod_stays hl (hr t (by simp)).1 (hr t (by simp)).2 h1 (λx hx=>hb.same (hlt x (hp x hx))) (λx hx=>hs x (hp x hx)),
   Kn hl hb (λt' ht'=>hr t' (by simp[ht'])) h2 (λx hx=>hlt x (hq x hx)) (λx hx=>hs x (hq x hx)),e⟩
theorem Ji{H:Type}{enc:TypeId×Value->H}{P:Program}{f:Func}{s:ChangeSpec}{apart fresh handsOn again:Bool}{W W':World}{args:Array Value}{t:TypeId}{ds gs:List (DataW H)}{before:List MemPlace}
 (hW:DataW.Whole enc P f.params.toList s.vars apart W args.toList ds gs before)(hv:s.vars=[])(hres:(s.fn H ds).results=[.lit (.bool true)])(hargs:(s.fn H ds).args=ds)(hvs:(s.fn H ds).vars=[])
 (hrt:f.resultTypes=#[t])(ht:P.underlying t=some .bool)(hl:laidOutB P=true)(hreadB:(f.params.toList.all λt=>P.readableRec t&&decide (t<P.types.size))=true)(hb:Below W.heap.size W W'):
 s.post enc P f apart fresh handsOn again W args (.bool true) W':=by
 have hread: ∀t∈f.params.toList,P.readableRec t=true/\t<P.types.size:= λt ht=>by simpa using List.all_eq_true.1 hreadB t ht
 have hlt: ∀p∈before,p.block<W.heap.size:= λp hp=>hW.lt p hp
 have hW0:=hW
 obtain⟨p,q,hA,hV,e,hz,hn⟩:=hW
 rw[hv]at hV
 obtain⟨rfl,rfl⟩:=trodVars_none hV
 rw[List.append_nil]at e
 subst e
 have hA': ∀sp:Nat->Bool,(∀p∈before,sp p.block=true)->DataW.TrodAll enc P W' 0 sp true f.params.toList args.toList ds before:= λsp hs=>Kn hl hb hread hA hlt hs
 have hold: ∀p∈before,(λb=>decide (b<W.heap.size)) p.block=true:= λp hp=>by simpa using hlt p hp
 have hR: ∀(b:Nat)(sp:Nat->Bool)(hd:Bool),DataW.TrodAll enc P W' b sp hd f.resultTypes.toList ((Value.bool true).resultList f.resultTypes.size) (s.fn H ds).results []:=by
  intro b sp hd
  rw[hrt,hres]
  exact trodAll_cons_mk (shut_bool ht true) trodAll_mk0
 have hV': ∀sp:Nat->Bool,DataW.TrodVars enc P W' sp s.vars (s.fn H ds).vars []:= λsp=>by rw[hv,hvs];exact rfl
 have hds:ds++([]:List (DataW H))=ds:=List.append_nil ds
 refine⟨ds,[],before,[],before,[],hW0,?_,?_,?_,World.keptBut_mono (λp hp=>⟨hp,Or.inr (Or.inl hp)⟩) (hb.frame (·∈before)),λ_=> ?_⟩
 ·rw[hds];exact hR _ _ _
 ·rw[hds,hargs];exact hA' _ hold
 ·rw[hds];exact hV' _
 refine⟨ok_one hrt rfl (okWide_bool_mk ht _),(.lit (.bool true))::ds,[],before,⟨before,[],?_,?_,(List.append_nil _).symm,?_,hn⟩,λp hp _=>hp⟩
 ·have:=trodAll_append (hA' (λ_=>true) (λ_ _=>rfl)) (hR 0 (λ_=>true) true)
  rw[hres]at this
  simpa using this
 ·rw[hv];exact rfl
 intro b off hp
 rw[hb.frozen (hlt _ hp)]
 exact hz b off hp
theorem U0{n:Int}(h:(Lit.int .i64 n).wf=true):Ai n:=by have:=bounds_i64 h;unfold Ai;omega
section
variable {H:Type} {enc:TypeId×Value->H} {w:World} {base:Nat} {spare:Nat->Bool} {held:Bool} {r:Reach} {b0:Nat} {v:Value} {d:DataW H} {p:List MemPlace}
end
end
section
open Go.RowKit Go.WideShapes Go.ChangeShapes Go.WideElems
set_option maxRecDepth 100000
theorem Sf{l:List Value}:(∀v∈l,∃x:Int,Ai x/\v=.int .i64 x)-> ∃xs:List Int,(∀x∈xs,Ai x)/\l=xs.map (Value.int .i64):=by
 intro h
 induction l with
 |nil=>exact⟨[],by simp,rfl⟩
 |cons v r ih=>
  obtain⟨x,hx,rfl⟩:=h v (by simp)
  obtain⟨xs,h1,rfl⟩:=ih λu hu=>h u (by simp[hu])
  exact⟨x::xs,λy hy=>by rcases List.mem_cons.1 hy with rfl|hy;exact hx;exact h1 y hy,rfl⟩
section
variable {H:Type} {enc:TypeId×Value->H} {P:Program} {w:World} {base:Nat} {spare:Nat->Bool} {held:Bool} {r:Reach} {b0:Nat} {v:Value} {d:DataW H} {p:List MemPlace}
end
section
variable {H:Type} {enc:TypeId×Value->H} {w:World} {base:Nat} {spare:Nat->Bool} {held:Bool} {r:Reach} {b0:Nat} {v:Value} {d:DataW H} {p:List MemPlace}
end
end
section
open Go.RowKit Go.WideShapes Go.ChangeShapes Go.WideElems
set_option maxRecDepth 100000
theorem own:ownKnob Tryz.prog.godebug=none:=by kernel_rfl
theorem Ii{P:Program}{w:World}{n:String}{d:DataW Unit}: ∀{l:List (String×DataW Unit)},laidMet P l w->(n,d)∈l->
 ∃g t cs fuel p,P.globalNamed n=some g/\(P.globals[g]?).map (·.type)=some t/\w.var? P n=some cs/\DataW.trod (λ_=>()) P w 0 (λ_=>true) false fuel t cs.toList=some (d,p):=by
 intro l h hm
 obtain⟨ps,hv,-⟩:=h
 revert ps
 induction l with
 |nil=>cases hm
 |cons x r ih=>
  intro ps hv
  obtain⟨m,e⟩:=x
  obtain⟨g,t,cs,fuel,p,q,h1,h2,h3,h4,h5,_⟩:=hv
  rcases List.mem_cons.1 hm with he|hm
  ·cases he;exact⟨g,t,cs,fuel,p,h1,h2,h3,h4⟩
  exact ih hm q h5
section
variable {H:Type} {enc:TypeId×Value->H} {w:World} {base:Nat} {spare:Nat->Bool} {held:Bool} {r:Reach} {b0:Nat} {v:Value} {d:DataW H} {p:List MemPlace}
end
theorem LE{w:World}{L:List (String×DataW Unit)}(hL:laidMet Tryz.prog L w)(hm:("aneroid/sym.places",Rows.laid_aneroid_sym_places)∈L):GP w:=by
 obtain⟨g',t',cs,fuel,p,h1,h2,h3,h4⟩:=Ii hL hm
 have hg:Tryz.prog.globalNamed "aneroid/sym.places" =some 2:=by kernel_rfl
 obtain rfl:=Option.some.inj (hg.symm.trans h1)
 obtain rfl:=Option.some.inj ((show(Tryz.prog.globals[2]?).map (·.type)=some 242 by kernel_rfl).symm.trans h2)
 obtain⟨xs,m,_,hx,hl,hn,hel⟩:=DataW.trod_array Tryz.underlying242 h4
 have c9:Tryz.prog.cellsOf 242=9:=by kernel_rfl
 have c3:Tryz.prog.cellsOf 241=3:=by kernel_rfl
 rw[c9]at hl
 rw[c3]at hel
 match xs,hn with
 | [y0,y1,y2],_=>
   have e0:=hel 0 (by omega)
   have e1:=hel 1 (by omega)
   have e2:=hel 2 (by omega)
   have hd:y0.1=Lib.tabData .i64 [0,1,2]/\y1.1=Lib.tabData .i64 [1,3,4]/\y2.1=Lib.tabData .i64 [2,4,5]:=by
    have:=(Prod.mk.inj hx).1
    simp only[Rows.laid_aneroid_sym_places,List.map_cons,List.map_nil,DataW.agg.injEq,List.cons.injEq,and_true]at this
    exact⟨this.1.symm,this.2.1.symm,this.2.2.symm⟩
   obtain⟨d0,p0⟩:=y0
   obtain⟨d1,p1⟩:=y1
   obtain⟨d2,p2⟩:=y2
   simp only at hd
   obtain⟨rfl,rfl,rfl⟩:=hd
   have k0:=Lib.cells_of_tab Tryz.underlying241 Tryz.underlying3 (by kernel_rfl) c3 e0
   have k1:=Lib.cells_of_tab Tryz.underlying241 Tryz.underlying3 (by kernel_rfl) c3 e1
   have k2:=Lib.cells_of_tab Tryz.underlying241 Tryz.underlying3 (by kernel_rfl) c3 e2
   have hcs:cs.toList=[.int .i64 0,.int .i64 1,.int .i64 2,.int .i64 1,.int .i64 3,.int .i64 4,.int .i64 2,.int .i64 4,.int .i64 5]:=by
    have e:cs.toList=(cs.toList.drop 0).take 3++((cs.toList.drop 3).take 3++(cs.toList.drop 6).take 3):=by
     rw[List.drop_zero]
     have a1:cs.toList.drop 3=(cs.toList.drop 3).take 3++(cs.toList.drop 6):=by
      rw[show cs.toList.drop 6=(cs.toList.drop 3).drop 3 by rw[List.drop_drop]];exact(List.take_append_drop 3 _).symm
     have a2:(cs.toList.drop 6).take 3=cs.toList.drop 6:=List.take_of_length_le (by simp at hl⊢;omega)
     rw[a2,<-a1];exact(List.take_append_drop 3 _).symm
    rw[e]
    simp only[Nat.zero_mul,Nat.one_mul]at k0 k1 k2
    rw[k0,k1,k2];rfl
   have hcell:=World.var?_cell hg h3
   have hget: ∀i,cs[i]? =cs.toList[i]? := λi=>(Array.getElem?_toList ..).symm
   unfold GP
   simp only[hcell,hget,hcs]
   simp
end
section
open Go.RowKit Go.WideShapes Go.ChangeShapes Go.WideElems
set_option maxRecDepth 100000
theorem Ke{w:World}{n:String}{g:Nat}{h l:Int}{L:List (String×DataW Unit)}(hg:Tryz.prog.globalNamed n=some g)(hty:(Tryz.prog.globals[g]?).map (·.type)=some 165)
 (hL:laidMet Tryz.prog L w)(hm:(n,DataW.agg [.lit (.int .i64 h),.lit (.int .u64 l)])∈L):w.cell? ⟨g,0,none⟩=some (.int .i64 h)/\w.cell? ⟨g,1,none⟩=some (.int .u64 l):=by
 obtain⟨g',t',cs,fuel,p,h1,h2,h3,h4⟩:=Ii hL hm
 obtain rfl:=Option.some.inj (hg.symm.trans h1)
 obtain rfl:=Option.some.inj (hty.symm.trans h2)
 obtain⟨y0,y1,m,hx,hl,k0,k1⟩:=trod_struct2 Tryz.underlying165 h4
 obtain⟨x,ex,rfl,_⟩:=DataW.trod_int Tryz.underlying2 k0
 obtain⟨y,ey,rfl,_⟩:=DataW.trod_int Tryz.underlying163 k1
 simp only[Prod.mk.injEq,DataW.agg.injEq,List.cons.injEq,DataW.lit.injEq,Lit.int.injEq,and_true,true_and]at hx
 obtain⟨⟨rfl,rfl⟩,_⟩:=hx
 have hc2:Tryz.prog.cellsOf 165=2:=by kernel_rfl
 have e0:Tryz.prog.cellsOf 2=1:=by kernel_rfl
 have e1:Tryz.prog.cellsOf 163=1:=by kernel_rfl
 rw[hc2]at hl
 obtain⟨c0,c1,rfl⟩:=Joins.array2 (by simpa using hl)
 simp[e0]at ex
 simp[e1]at ey
 subst ex
 subst ey
 exact⟨World.var?_cell hg h3 0,World.var?_cell hg h3 1⟩
theorem Ly{w:World}{L:List (String×DataW Unit)}(hL:laidMet Tryz.prog L w)(hm:("aneroid/wide.none",Rows.laid_aneroid_wide_none)∈L):GN w:=Ke (by kernel_rfl) (by kernel_rfl) hL hm
end
section
open Go.RowKit Go.WideShapes Go.ChangeShapes Go.WideElems
set_option maxRecDepth 100000
theorem Li{w:World}{L:List (String×DataW Unit)}(hL:laidMet Tryz.prog L w)(hm:("aneroid/wide.least",Rows.laid_aneroid_wide_least)∈L):GL w:=Ke (by kernel_rfl) (by kernel_rfl) hL hm
end
section
open Go.RowKit Go.WideShapes Go.ChangeShapes Go.WideElems
set_option maxRecDepth 100000
theorem LN{w:World}{L:List (String×DataW Unit)}(hL:laidMet Tryz.prog L w)(hm:("aneroid/spread.rows",Rows.laid_aneroid_spread_rows)∈L):GR w:=by
 obtain⟨g',t',cs,fuel,p,h1,h2,h3,h4⟩:=Ii hL hm
 have hg:Tryz.prog.globalNamed "aneroid/spread.rows" =some 3:=by kernel_rfl
 obtain rfl:=Option.some.inj (hg.symm.trans h1)
 obtain rfl:=Option.some.inj ((show(Tryz.prog.globals[3]?).map (·.type)=some 246 by kernel_rfl).symm.trans h2)
 obtain⟨xs,m,_,hx,hl,hn,hel⟩:=DataW.trod_array Tryz.underlying246 h4
 have c9:Tryz.prog.cellsOf 246=9:=by kernel_rfl
 have c3:Tryz.prog.cellsOf 22=3:=by kernel_rfl
 rw[c9]at hl
 rw[c3]at hel
 match xs,hn with
 | [y0,y1,y2],_=>
   have e0:=hel 0 (by omega)
   have e1:=hel 1 (by omega)
   have e2:=hel 2 (by omega)
   have hd:y0.1=Lib.tabData .i64 [32768,256,-1]/\y1.1=Lib.tabData .i64 [0,32768,-256]/\y2.1=Lib.tabData .i64 [0,0,32768]:=by
    have:=(Prod.mk.inj hx).1
    simp only[Rows.laid_aneroid_spread_rows,List.map_cons,List.map_nil,DataW.agg.injEq,List.cons.injEq,and_true]at this
    exact⟨this.1.symm,this.2.1.symm,this.2.2.symm⟩
   obtain⟨d0,p0⟩:=y0
   obtain⟨d1,p1⟩:=y1
   obtain⟨d2,p2⟩:=y2
   simp only at hd
   obtain⟨rfl,rfl,rfl⟩:=hd
   have k0:=Lib.cells_of_tab Tryz.underlying22 Tryz.underlying2 (by kernel_rfl) c3 e0
   have k1:=Lib.cells_of_tab Tryz.underlying22 Tryz.underlying2 (by kernel_rfl) c3 e1
   have k2:=Lib.cells_of_tab Tryz.underlying22 Tryz.underlying2 (by kernel_rfl) c3 e2
   have hcs:cs.toList=[.int .i64 32768,.int .i64 256,.int .i64 (-1),.int .i64 0,.int .i64 32768,.int .i64 (-256),.int .i64 0,.int .i64 0,.int .i64 32768]:=by
    have e:cs.toList=(cs.toList.drop 0).take 3++((cs.toList.drop 3).take 3++(cs.toList.drop 6).take 3):=by
     rw[List.drop_zero]
     have a1:cs.toList.drop 3=(cs.toList.drop 3).take 3++(cs.toList.drop 6):=by
      rw[show cs.toList.drop 6=(cs.toList.drop 3).drop 3 by rw[List.drop_drop]];exact(List.take_append_drop 3 _).symm
     have a2:(cs.toList.drop 6).take 3=cs.toList.drop 6:=List.take_of_length_le (by simp at hl⊢;omega)
     rw[a2,<-a1];exact(List.take_append_drop 3 _).symm
    rw[e]
    simp only[Nat.zero_mul,Nat.one_mul]at k0 k1 k2
    rw[k0,k1,k2];rfl
   have hcell:=World.var?_cell hg h3
   have hget: ∀i,cs[i]? =cs.toList[i]? := λi=>(Array.getElem?_toList ..).symm
   unfold GR
   simp only[hcell,hget,hcs]
   simp
end
end Go.Proofs.YtikajapjkdloaaaGreatDoor
