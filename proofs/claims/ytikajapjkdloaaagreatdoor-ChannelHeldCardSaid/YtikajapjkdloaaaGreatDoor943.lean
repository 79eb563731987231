/- Rows of ticks and of tellings; channel.Run. -/
import Derived.Test.YtikajapjkdloaaaGreatDoor942
namespace Go.Proofs.YtikajapjkdloaaaGreatDoor
open Go.RowKit
set_option linter.unusedSimpArgs false
set_option linter.unusedVariables false
abbrev Tk.cells(t:Tk):List Value:=[.int .i64 t.a,.bool t.has,.int .i64 t.pr,.bool t.sh]
abbrev Td.cells(t:Td):List Value:=[.int .i64 t.mo,.bool t.va,.bool t.ac,.bool t.re,.bool t.he,.bool t.gr,.int .i64 t.al,.int .i64 t.sp,.int .i64 t.bi]
def Ep(T:Nat->Tk)(cs:List Value)(o n:Nat):Prop:= ∀i,i<n-> ∀j,j<4->cs[o+i*4+j]? =(T i).cells[j]?
def SB(T:Nat->Td)(cs:List Value)(o n:Nat):Prop:= ∀i,i<n-> ∀j,j<9->cs[o+i*9+j]? =(T i).cells[j]?
theorem Ot{P:Program}{b off n:Nat}{ty:TypeId}{cs L:List Value}{W:World}(hd:(P.underlying ty).map D3=some true)(hi:(P.info? ty).map (·.size)=some n)(hn:L.length=n)(hv: ∀j,j<n->cs[off+j]? =L[j]?)(h0:0<n)
 (hc: ∀i v,cs[i]? =some v->W.cell? ⟨b,i,none⟩=some v):(Instr.loadAt ty (.pointer (some ⟨b,off,none⟩))).run P W=.ok (.agg L.toArray) W:=by
 have hlen:off+n<=cs.length:=by
  have h1:cs[off+(n-1)]? =some (L[n-1]'(by omega)):=(hv (n-1) (by omega)).trans (List.getElem?_eq_getElem (by omega))
  have:=(List.getElem?_eq_some_iff.1 h1).1
  omega
 have he:(cs.drop off).take n=L:=by
  apply List.ext_getElem?
  intro j
  rw[List.getElem?_take,List.getElem?_drop]
  split
  ·rename_i hj;exact hv j hj
  rw[List.getElem?_eq_none (by omega)]
 refine Cc (b:=b) (cs:=cs) (q:=b=b) ?_ rfl hc
 show(match(P.underlying ty).map D3,(P.info? ty).map (·.size)with
  |some true,some n=>if off+n<=cs.length then some (Value.agg ((cs.drop off).take n).toArray,b=b)else none
  |some false,some _=>(cs[off]?).map (·,b=b)
  |_,_=>none)=_
 rw[hd,hi]
 show(if off+n<=cs.length then some (Value.agg ((cs.drop off).take n).toArray,b=b)else none)=_
 rw[if_pos hlen,he]
theorem Dh(b o n c k:Nat)(h:k<n):IJ Tryz.prog (do pure (.value (<-Instr.indexAt 62 (.slice (some ⟨b,o,none⟩) n c) (.int .i64 (k:Int))))) (.pointer (some ⟨b,o+k*4,none⟩)):=by
 intro W
 have hu:Tryz.prog.underlying 62=some (.slice 39):=by kernel_rfl
 simp[Instr.indexAt,run_underlying hu,asIntOf,h,Addr.add_lit]
theorem BY(b o n c k:Nat)(h:k<n):IJ Tryz.prog (do pure (.value (<-Instr.indexAt 69 (.slice (some ⟨b,o,none⟩) n c) (.int .i64 (k:Int))))) (.pointer (some ⟨b,o+k*9,none⟩)):=by
 intro W
 have hu:Tryz.prog.underlying 69=some (.slice 36):=by kernel_rfl
 simp[Instr.indexAt,run_underlying hu,asIntOf,h,Addr.add_lit]
section
variable {b o n k:Nat} {cs:List Value}
theorem Dd(es sb:AD){T:Nat->Tk}(hm:(b,cs)∈sb∨(b,cs)∈es)(hT:Ep T cs o n)(h:k<n):VR Tryz.prog es sb (do pure (.value (<-Instr.loadAt 39 (.pointer (some ⟨b,o+k*4,none⟩))))) (T k).val:=by
 intro W hW
 have:=Ot (n:=4) (ty:=39) (P:=Tryz.prog) (by kernel_rfl) (by kernel_rfl) (L:=(T k).cells) rfl (λj hj=>hT k h j hj) (by decide) (hm.elim (hW.1 _) (hW.2 _))
 simp[this]
theorem IP(es sb:AD){T:Nat->Td}(hm:(b,cs)∈sb∨(b,cs)∈es)(hT:SB T cs o n)(h:k<n):VR Tryz.prog es sb (do pure (.value (<-Instr.loadAt 36 (.pointer (some ⟨b,o+k*9,none⟩))))) (T k).val:=by
 intro W hW
 have:=Ot (n:=9) (ty:=36) (P:=Tryz.prog) (by kernel_rfl) (by kernel_rfl) (L:=(T k).cells) rfl (λj hj=>hT k h j hj) (by decide) (hm.elim (hW.1 _) (hW.2 _))
 simp[this]
theorem BR(es sb:AD)(ty:TypeId){T:Nat->Td}{v:Value}(hm:(b,cs)∈sb∨(b,cs)∈es)(hT:SB T cs o n)(j:Nat)(h:k<n)(hj:j<9)(hv:(T k).cells[j]? =some v)(hd:(Tryz.prog.underlying ty).map D3=some false)(hi:((Tryz.prog.info? ty).map (·.size)).isSome=true):
 VR Tryz.prog es sb (do pure (.value (<-Instr.loadAt ty (.pointer (some ⟨b,o+k*9+j,none⟩))))) v:=by
 intro W hW
 have:=OL hd hi ((hT k h j hj).trans hv) (hm.elim (hW.1 _) (hW.2 _))
 simp[this]
theorem YS(es sb:AD)(ty:TypeId){T:Nat->Tk}{v:Value}(hm:(b,cs)∈sb∨(b,cs)∈es)(hT:Ep T cs o n)(j:Nat)(h:k<n)(hj:j<4)(hv:(T k).cells[j]? =some v)(hd:(Tryz.prog.underlying ty).map D3=some false)(hi:((Tryz.prog.info? ty).map (·.size)).isSome=true):
 VR Tryz.prog es sb (do pure (.value (<-Instr.loadAt ty (.pointer (some ⟨b,o+k*4+j,none⟩))))) v:=by
 intro W hW
 have:=OL hd hi ((hT k h j hj).trans hv) (hm.elim (hW.1 _) (hW.2 _))
 simp[this]
end
abbrev Wk(f:Nat->Int):Value:=.agg #[.int .i64 (f 0),.int .i64 (f 1),.int .i64 (f 2)]
abbrev Wj(f:Nat->Int):Value:=.agg #[.int .i64 (f 0),.int .i64 (f 1),.int .i64 (f 2),.int .i64 (f 3),.int .i64 (f 4),.int .i64 (f 5)]
abbrev XF(f:Nat->Int):List Value:=[.int .i64 (f 0),.int .i64 (f 1),.int .i64 (f 2)]
abbrev XD(f:Nat->Int):List Value:=[.int .i64 (f 0),.int .i64 (f 1),.int .i64 (f 2),.int .i64 (f 3),.int .i64 (f 4),.int .i64 (f 5)]
abbrev WX(c:Nat->Int)(f g r:Nat)(S:Chs)(n:Nat):List Value:=Af S.x S.p c f g (fv S.zs r n) S.m S.s
abbrev WU(c:Nat->Int)(S:Chs):List Value:=AG S.la S.ru c
abbrev WW(c:Nat->Int)(S:Chs):List Value:=Ak c S.gc S.kn
theorem XC{w:World}{bs:AD}{rs:Aw}{c:Nat->Int}(ch f g r:Nat)(S:Chs)(N e0 n:Nat)(t:Tk)(ks idx:List Nat)(hc: ∀i,Ai (c i))(hk:Ct c=0)(hA:GA w)(hI:ChI c S N)(hN:N<=100000)
 (hks:T6 ch f g r c S n=ks.filterMap λi=>bs[i]?)(hkl:ks.all (λk=>decide (k<bs.length))=true)(hnd:ks.Nodup)(hr: ∃k,ks[3]? =some k/\(k,Ao S.zs e0,An S.zs n)∈rs)(hi:idx.all (λi=>decide (i<bs.length+4)&& !ks.contains i)=true)(hin:idx.Nodup):
 CallMX Tryz.prog (⟨w,λ_=>False⟩:Base) bs [] rs [] 15 #[.pointer (some ⟨ch,0,none⟩),t.val] (λρ=>((AA c S t).2.val,EM idx (bs++T6 ch f g (ρ 0) c (AA c S t).1 (ρ 2)),N9 ks bs.length rs (Vf (AA c S t).1 (ρ 1) (ρ 2)) idx)):=
 CallMX.of (ks:=ks) (bs0:=T6 ch f g r c S n) (rs0:=Vf S e0 n) (os0:=[]) (V:= λ_=>(AA c S t).2.val) (bs1:= λρ=>T6 ch f g (ρ 0) c (AA c S t).1 (ρ 2)) (rs1:= λρ=>Vf (AA c S t).1 (ρ 1) (ρ 2)) idx
  (λW hW hH=>(CJ ch f g r c S N e0 n t hc hk hI hN W hH (hA.of hW NA.nf) (hW.freshA hA NA.nf (ks:=ks) hks (List.nil_sublist _))).mono λe' w' h=>h.elim λr' h=>h.elim λe1 h=>h.elim λn' h=>⟨P4 r' e1 n',h⟩)
  hks hkl hnd (λr h=>by obtain rfl:=List.mem_singleton.1 h;exact hr) (List.nil_sublist _) (λ_=>hi) hin (λ_=>rfl)
def DL(t:Nat->Td):Nat->List Value
 |0=>[]
 |k+1=>DL t k++(t k).cells
def Cs(t:Nat->Tk):Nat->List Value
 |0=>[]
 |k+1=>Cs t k++(t k).cells
theorem FQ(t:Nat->Td): ∀k,(DL t k).length=k*9
 |0=>rfl
 |k+1=>by show(DL t k++_).length=_;rw[List.length_append,FQ t k];show k*9+9=_;omega
theorem DO(t:Nat->Tk): ∀k,(Cs t k).length=k*4
 |0=>rfl
 |k+1=>by show(Cs t k++_).length=_;rw[List.length_append,DO t k];show k*4+4=_;omega
theorem BH(t:Nat->Td): ∀n,SB t (DL t n) 0 n:=by
 intro n
 induction n with
 |zero=>intro i hi;omega
 |succ n ih=>
  intro i hi j hj
  show(DL t n++_)[_]? =_
  rcases Nat.lt_or_eq_of_le (Nat.le_of_lt_succ hi)with q|q
  ·rw[List.getElem?_append_left (by rw[FQ];omega)];exact ih i q j hj
  subst q
  rw[List.getElem?_append_right (by rw[FQ];omega),FQ,show 0+i*9+j-i*9=j by omega]
theorem U1(t:Nat->Tk): ∀n,Ep t (Cs t n) 0 n:=by
 intro n
 induction n with
 |zero=>intro i hi;omega
 |succ n ih=>
  intro i hi j hj
  show(Cs t n++_)[_]? =_
  rcases Nat.lt_or_eq_of_le (Nat.le_of_lt_succ hi)with q|q
  ·rw[List.getElem?_append_left (by rw[DO];omega)];exact ih i q j hj
  subst q
  rw[List.getElem?_append_right (by rw[DO];omega),DO,show 0+i*4+j-i*4=j by omega]
abbrev Wt(c:Nat->Int)(T:Nat->Tk)(ξ33:Lt):Chs×Td:=(AA c (AB c T ξ33.k) (T ξ33.k))
set_option maxRecDepth 1000000 in
set_option maxHeartbeats 8000000 in
theorem Gr(c:Nat->Int)(T:Nat->Tk)(b o n cap0:Nat)(cs:List Value)(hc: ∀i,Ai (c i))(hk:Ct c=0)(h0:0<n)(hn:n<=4096)(hT:Ep T cs o n)(w:World)(hA:GA w)(hb:b<w.heap.size)(hx: ∀(i:Nat)(v:Value),cs[i]? =some v->w.cell? ⟨b,i,none⟩=some v):Calls Tryz.prog 26 #[(cA c),.slice (some ⟨b,o,none⟩) n cap0] w (λe w'=> ∃r cap:Nat,e=.returned (.tuple #[.slice (some ⟨r,0,none⟩) n cap,.int .i64 0])/\Sx (⟨w,λ_=>False⟩:Base) w' [(r,DL (Am c T) n)] [] [] []):=by
 have hn':=NA.nf
 exact(let B:Base:=(⟨w,λ_=>False⟩:Base);let R:Ending->World->Prop:=(λe w'=> ∃r cap:Nat,e=.returned (.tuple #[.slice (some ⟨r,0,none⟩) n cap,.int .i64 0])/\Sx (⟨w,λ_=>False⟩:Base) w' [(r,DL (Am c T) n)] [] [] []);let I9:Lt->Prop:= λζ=>ζ.k=0;let M10:Lt->Nat:= λζ=>1-ζ.k;let S11:(Nat)->(Nat->Nat)->Lt->SD:= λ(r1:Nat)(Y4:Nat->Nat)=> λζ=>(⟨#[(cA c),.slice (some ⟨b,o,none⟩) n cap0,vP r1,vN,.slice none 0 0,vI 0,vP (Y4 0),vI 0,.slice none 0 0,vN,(ζ.u 10),.tuple #[vP (Y4 0),vI 0],(cA c),.tuple #[vP (Y4 0),vI 0],vP (Y4 0),vI 0,vF,vI 0,vF,vN,vF,.slice (some ⟨b,o,none⟩) n cap0,vI (n:Int),.bool (decide ((n:Int)>4096)),.slice (some ⟨b,o,none⟩) n cap0,vI (n:Int),vI 0,(ζ.u 27),(ζ.u 28),(ζ.u 29),(ζ.u 30),(ζ.u 31),(ζ.u 32),(ζ.u 33),(ζ.u 34),(ζ.u 35),(ζ.u 36),vN],[(r1,(cL c)),((Y4 0),(WX c (Y4 1) (Y4 2) (Y4 3) S0 31)),((Y4 1),(WU c S0)),((Y4 2),(WW c S0)),((Y4 3),(zL S0.zs)),((Y4 4),[])],[],[(0,25,31),(4,(Ao S0.zs Ad),(An S0.zs 31)),(5,Ad,31)],[]⟩:SD);let Z37:(Nat)->(Nat->Nat)->(Nat)->(Nat)->(Nat)->(Nat->Nat)->Lt:= λ(r12:Nat)(Y4:Nat->Nat)(r24:Nat)(g28:Nat)(p29:Nat)(Y17:Nat->Nat)=>(⟨1,λ_=>0,lu [(10,[vP r12]),(27,[vT,.pointer (some ⟨b,o+0*4,none⟩),((T 0).val),.slice none 0 0,vP (Y4 0),((T 0).val),(((AA c S0 (T 0)).2).val),vS r24 1 1,vS g28 1 p29,vI 1])],λ_=>(none,0),λi=>match i with|0=>(Y17 0)|1=>(Y17 1)|2=>(Y17 2)|3=>g28|4=>p29|_=>0,λ_=>[]⟩:Lt);let I34:Lt->Prop:= λζ=>(1<=ζ.k/\ζ.k<=n/\ζ.k<=ζ.r 4/\ζ.r 4<=maxLen);let M35:Lt->Nat:= λζ=>n-ζ.k;let S36:(Nat)->(Nat->Nat)->(Nat)->(Nat)->Lt->SD:= λ(r1:Nat)(Y4:Nat->Nat)(r12:Nat)(r24:Nat)=> λζ=>(⟨#[(cA c),.slice (some ⟨b,o,none⟩) n cap0,vP r1,vN,.slice none 0 0,vI 0,vP (Y4 0),vI 0,.slice (some ⟨(ζ.r 3),0,none⟩) ζ.k (ζ.r 4),vN,(ζ.u 10),.tuple #[vP (Y4 0),vI 0],(cA c),.tuple #[vP (Y4 0),vI 0],vP (Y4 0),vI 0,vF,vI 0,vF,vN,vF,.slice (some ⟨b,o,none⟩) n cap0,vI (n:Int),.bool (decide ((n:Int)>4096)),.slice (some ⟨b,o,none⟩) n cap0,vI (n:Int),vI ((ζ.k:Nat):Int),(ζ.u 27),(ζ.u 28),(ζ.u 29),(ζ.u 30),(ζ.u 31),(ζ.u 32),(ζ.u 33),(ζ.u 34),(ζ.u 35),(ζ.u 36),vN],[(r1,(cL c)),((Y4 0),(WX c (Y4 1) (Y4 2) (ζ.r 0) (AB c T ζ.k) (ζ.r 2))),((Y4 1),(WU c (AB c T ζ.k))),((Y4 2),(WW c (AB c T ζ.k))),((ζ.r 0),(zL (AB c T ζ.k).zs)),((Y4 4),[]),(r12,(T 0).cells),(r24,((AA c S0 (T 0)).2).cells),((ζ.r 3),(DL (Am c T) ζ.k))],[],[(0,25,31),(5,Ad,31),(6,39,4),(4,(Ao (AB c T ζ.k).zs (ζ.r 1)),(An (AB c T ζ.k).zs (ζ.r 2))),(7,36,9),(8,36,(ζ.r 4*9))],[]⟩:SD);let Z67:(Lt)->(Nat)->(Nat->Nat)->(Nat)->(Nat)->(Nat)->(Nat->Nat)->Lt:= λ(ξ33:Lt)(r46:Nat)(Y4:Nat->Nat)(r58:Nat)(g62:Nat)(p63:Nat)(Y51:Nat->Nat)=>(⟨ξ33.k+1,λ_=>0,lu [(10,[vP r46]),(27,[vT,.pointer (some ⟨b,o+ξ33.k*4,none⟩),((T ξ33.k).val),.slice (some ⟨(ξ33.r 3),0,none⟩) ξ33.k (ξ33.r 4),vP (Y4 0),((T ξ33.k).val),(((Wt c T ξ33).2).val),vS r58 1 1,vS g62 (ξ33.k+1) p63,vI ((ξ33.k+1:Nat):Int)])],λ_=>(none,0),λi=>match i with|0=>(Y51 0)|1=>(Y51 1)|2=>(Y51 2)|3=>g62|4=>p63|_=>0,λ_=>[]⟩:Lt);AC (f:=26) (B:=B) (R:=R) (es:=[(b,cs)]) (c:=Tryz.f26.body.getD .skip) (tmps:=(Gn [(cA c),.slice (some ⟨b,o,none⟩) n cap0] 36))
  (.s [.c,.c] (.new (λr1=>.s [.v,.v,.c,.c,.c,.own 0] (.mut (λ(Y4:Nat->Nat)=>(.tuple #[vP (Y4 0),vI 0],[(r1,(cL c)),((Y4 0),(WX c (Y4 1) (Y4 2) (Y4 3) S0 31)),((Y4 1),(WU c S0)),((Y4 2),(WW c S0)),((Y4 3),(zL S0.zs)),((Y4 4),[])],[(0,25,31),(4,(Ao S0.zs Ad),(An S0.zs 31)),(5,Ad,31)])) (λY4=>.s [.v,.v,.v,.v,.v,.c,.c,.c,.c,.c,.v,.v,.v,.c,.c,.c,.c,.v,.v,.v,.v,.c,.setv 20 (vF),.c,.c,.c,.c,.c,.v,.c,.c,.c,.c,.v,.v,.v,.c,.c,.c] (.loop (σ:=Lt) I9 M10 (S11 r1 Y4) (λξ8=>.s [.c,.c,.v,.c,.c,.setv 27 (vT),.c,.c,.c,.c,.c,.c,.fact (.pointer (some ⟨b,o+0*4,none⟩)),.ld (((T 0).val))] (.new (λr12=>.s [.put 6] (.s [.c,.c,.v,.v,.own 6] (.mut (λ(Y17:Nat->Nat)=>((((AA c S0 (T 0)).2).val),[(r1,(cL c)),((Y4 0),(WX c (Y4 1) (Y4 2) (Y17 0) ((AA c S0 (T 0)).1) (Y17 2))),((Y4 1),(WU c ((AA c S0 (T 0)).1))),((Y4 2),(WW c ((AA c S0 (T 0)).1))),((Y17 0),(zL ((AA c S0 (T 0)).1).zs)),((Y4 4),[]),(r12,(T 0).cells)],[(0,25,31),(5,Ad,31),(6,39,4),(4,(Ao ((AA c S0 (T 0)).1).zs (Y17 1)),(An ((AA c S0 (T 0)).1).zs (Y17 2)))])) (λY17=>.new (λr24=>.app none true 7 ((AA c S0 (T 0)).2).cells (λg28 p29=>.s [.v,.c,.c,.c,.v,.v,.c,.c] (.loop (σ:=Lt) I34 M35 (S36 r1 Y4 r12 r24) (λξ33=>.s [.c,.c,.v,.c,.c] (.split 27 (.s [.c,.c,.c,.c,.c,.c,.fact (.pointer (some ⟨b,o+ξ33.k*4,none⟩)),.ld (((T ξ33.k).val))] (.new (λr46=>.s [.put 9] (.s [.c,.c,.v,.v,.own 9] (.mut (λ(Y51:Nat->Nat)=>((((Wt c T ξ33).2).val),[(r1,(cL c)),((Y4 0),(WX c (Y4 1) (Y4 2) (Y51 0) ((Wt c T ξ33).1) (Y51 2))),((Y4 1),(WU c ((Wt c T ξ33).1))),((Y4 2),(WW c ((Wt c T ξ33).1))),((Y51 0),(zL ((Wt c T ξ33).1).zs)),((Y4 4),[]),(r12,(T 0).cells),(r24,((AA c S0 (T 0)).2).cells),((ξ33.r 3),(DL (Am c T) ξ33.k)),(r46,(T ξ33.k).cells)],[(0,25,31),(5,Ad,31),(6,39,4),(7,36,9),(8,36,(ξ33.r 4*9)),(9,39,4),(4,(Ao ((Wt c T ξ33).1).zs (Y51 1)),(An ((Wt c T ξ33).1).zs (Y51 2)))])) (λY51=>.new (λr58=>.app (some 8) true 10 ((Wt c T ξ33).2).cells (λg62 p63=>.s [.v,.c,.c,.c,.v,.setv 36 (vI ((ξ33.k+1:Nat):Int)),.v,.c,.c] (.again 0))))))))) (.s [.c,.c,.c,.c,.v,.v,.v,.c] (.ret [])))))))))))))))))))
  (by kernel_rfl) (Sx.refl w _) (by exact ExX.cons ⟨hb,id,hx⟩ (ExX.nil)) Tryz.func26 (by kernel_rfl) (by kernel_rfl) (Eq.mp (by kernel_rfl) (λ(r1:Nat)=>let bs2:AD:=[(r1,(cL c))];let rs3:Aw:=[(0,25,31)];aI (Eq.refl r1) (aI (CallMX.of (B:=B) (bs:=bs2) (rs:=rs3) (os:=[]) (ks:=[]) (bs0:=[]) (rs0:=[]) (os0:=[]) (V:= λρ=>.tuple #[.pointer (some ⟨(ρ 0),0,none⟩),vI 0]) (bs1:= λρ=>[((ρ 0),(WX c (ρ 1) (ρ 2) (ρ 3) S0 31)),((ρ 1),(WU c S0)),((ρ 2),(WW c S0)),((ρ 3),(zL S0.zs)),((ρ 4),[])]) (rs1:= λρ=>[(3,(Ao S0.zs Ad),(An S0.zs 31)),(4,Ad,31)]) [0,1,2,3,4,5] (λW hW hH=>(D9 c hc hk W).mono (λe' w' h=>h.elim λa1 h=>h.elim λa2 h=>h.elim λa3 h=>h.elim λa4 h=>h.elim λa5 h=>⟨T8 a1 a2 a3 a4 a5,h.1,h.2.nb⟩)) rfl rfl (by decide) (λ_ h=>by cases h) (List.nil_sublist _) (λ_=>rfl) (by decide) (λ_=>rfl)) (λ(Y4:Nat->Nat)=>And.intro trivial (let e6:Nat×List Value:=((Y4 0),(WX c (Y4 1) (Y4 2) (Y4 3) S0 31));let bs5:AD:=[(r1,(cL c)),e6,((Y4 1),(WU c S0)),((Y4 2),(WW c S0)),((Y4 3),(zL S0.zs)),((Y4 4),[])];aI (vB (a:=(decide ((n:Int)>4096))) (b:=false) (decide_eq_false (by omega))) (And.intro (Ij I9 (S11 r1 Y4) ((⟨0,λ_=>0,λ_=>vN,λ_=>(none,0),λ_=>0,λ_=>[]⟩:Lt)) (show(⟨0,λ_=>0,λ_=>vN,λ_=>(none,0),λ_=>0,λ_=>[]⟩:Lt).k=0 from by(exact rfl)) [] [] [(0,25,31),(4,(Ao S0.zs Ad),(An S0.zs 31)),(5,Ad,31)] (λ_ h=>h) (λ_ h=>h) (by kernel_rfl)) (λ(ξ8:Lt)(hI1:ξ8.k=0)=>aI (vB (a:=(decide (0<(n:Int)))) (b:=true) (decide_eq_true (by omega))) (aI (Dh b o n cap0 0 (by omega)) (aI (Dd [(b,cs)] bs5 (Or.inr (List.mem_of_getElem? (i:=0) rfl)) hT (k:=0) (by omega)) (λ(r12:Nat)=>let rs15:Aw:=[(0,25,31),(4,(Ao S0.zs Ad),(An S0.zs 31)),(5,Ad,31),(6,39,4)];aI (LO r12) (aI trivial (let bs16:AD:=[(r1,(cL c)),e6,((Y4 1),(WU c S0)),((Y4 2),(WW c S0)),((Y4 3),(zL S0.zs)),((Y4 4),[]),(r12,(T 0).cells)];aI (Eq.refl r12) (aI (XC (bs:=bs16) (rs:=rs15) (Y4 0) (Y4 1) (Y4 2) (Y4 3) S0 0 Ad 31 (T 0) [1,2,3,4] [0,7,8,9,10,5,6] hc hk hA (Ey c hk) (by omega) rfl rfl (by decide) ⟨4,rfl,by simp[rs15]⟩ rfl (by decide)) (λ(Y17:Nat->Nat)=>And.intro trivial (λ(r24:Nat)=>let e26:Nat×List Value:=(r24,((AA c S0 (T 0)).2).cells);aI (show(((none:Option Addr)=none)/\(0=0)/\(0=0)/\(r24=r24)/\(9=9)/\((((AA c S0 (T 0)).2).cells:List Value)=BF ((AA c S0 (T 0)).2).cells 0 (1*9))/\((((AA c S0 (T 0)).2).cells:List Value).length=1*9)/\(0<1)/\(1<=maxLen)/\(1*40<=140737488355328))from⟨rfl,rfl,rfl,rfl,rfl,rfl,rfl,by decide,by decide,by decide⟩) (λ(g28:Nat)(p29:Nat)(hp29:1<=p29)(mp29:p29<=maxLen)=>And.intro trivial (And.intro (Ij I34 (S36 r1 Y4 r12 r24) ((Z37 r12 Y4 r24 g28 p29 Y17)) (show(1<=(Z37 r12 Y4 r24 g28 p29 Y17).k/\(Z37 r12 Y4 r24 g28 p29 Y17).k<=n/\(Z37 r12 Y4 r24 g28 p29 Y17).k<=(Z37 r12 Y4 r24 g28 p29 Y17).r 4/\(Z37 r12 Y4 r24 g28 p29 Y17).r 4<=maxLen)from by(exact⟨Nat.le_refl 1,by show 1<=n;omega,by show 1<=p29;omega,mp29⟩)) [] [] [(0,25,31),(5,Ad,31),(6,39,4),(4,(Ao ((AA c S0 (T 0)).1).zs (Y17 1)),(An ((AA c S0 (T 0)).1).zs (Y17 2))),(7,36,9),(8,36,p29*9)] (by first|exactλ_ h=>h|(simp[S36];done)|(simp[S36];repeat' (first|rfl|apply And.intro))) (by first|exactλ_ h=>h|(simp[S36];done)|(simp[S36];repeat' (first|rfl|apply And.intro))) (by kernel_rfl)) (λ(ξ33:Lt)(hI2:(1<=ξ33.k/\ξ33.k<=n/\ξ33.k<=ξ33.r 4/\ξ33.r 4<=maxLen))=>hv (hI2.2.1) (λLK=>hv (hI2.2.2.1) (λLC=>hv (hI2.2.2.2) (λLM=>hv (hI2.1) (λL1=>let e39:Nat×List Value:=((Y4 0),(WX c (Y4 1) (Y4 2) (ξ33.r 0) (AB c T ξ33.k) (ξ33.r 2)));let e40:Nat×List Value:=((Y4 1),(WU c (AB c T ξ33.k)));let e41:Nat×List Value:=((Y4 2),(WW c (AB c T ξ33.k)));let e42:Nat×List Value:=((ξ33.r 0),(zL (AB c T ξ33.k).zs));let e43:Nat×List Value:=((ξ33.r 3),(DL (Am c T) ξ33.k));let bs38:AD:=[(r1,(cL c)),e39,e40,e41,e42,((Y4 4),[]),(r12,(T 0).cells),e26,e43];let rs44:Aw:=[(0,25,31),(5,Ad,31),(6,39,4),(4,(Ao (AB c T ξ33.k).zs (ξ33.r 1)),(An (AB c T ξ33.k).zs (ξ33.r 2))),(7,36,9),(8,36,(ξ33.r 4*9))];And.intro (λ(h45:(decide (((ξ33.k:Nat):Int)<(n:Int)))=true)=>hv (show((ξ33.k:Nat):Int)<(n:Int)from(by simpa using h45)) (λh45p=>aI (Dh b o n cap0 ξ33.k (by omega)) (aI (Dd [(b,cs)] bs38 (Or.inr (List.mem_of_getElem? (i:=0) rfl)) hT (k:=ξ33.k) (by omega)) (λ(r46:Nat)=>let rs49:Aw:=[(0,25,31),(5,Ad,31),(6,39,4),(4,(Ao (AB c T ξ33.k).zs (ξ33.r 1)),(An (AB c T ξ33.k).zs (ξ33.r 2))),(7,36,9),(8,36,(ξ33.r 4*9)),(9,39,4)];aI (LO r46) (aI trivial (let bs50:AD:=[(r1,(cL c)),e39,e40,e41,e42,((Y4 4),[]),(r12,(T 0).cells),e26,e43,(r46,(T ξ33.k).cells)];aI (Eq.refl r46) (aI (XC (bs:=bs50) (rs:=rs49) (Y4 0) (Y4 1) (Y4 2) (ξ33.r 0) (AB c T ξ33.k) ξ33.k (ξ33.r 1) (ξ33.r 2) (T ξ33.k) [1,2,3,4] [0,10,11,12,13,5,6,7,8,9] hc hk hA (C6 T hc hk _) (by omega) rfl rfl (by decide) ⟨4,rfl,by simp[rs49]⟩ rfl (by decide)) (λ(Y51:Nat->Nat)=>And.intro trivial (λ(r58:Nat)=>aI (show((some (⟨(ξ33.r 3),0,none⟩:Addr)=some ⟨(ξ33.r 3),0,none⟩)/\((8,36,(ξ33.r 4)*9)∈([(0,25,31),(5,Ad,31),(6,39,4),(7,36,9),(8,36,(ξ33.r 4*9)),(9,39,4),(4,(Ao ((Wt c T ξ33).1).zs (Y51 1)),(An ((Wt c T ξ33).1).zs (Y51 2))),(10,36,9)]:Aw))/\(((DL (Am c T) ξ33.k):List Value).length=ξ33.k*9)/\(ξ33.k<=(ξ33.r 4))/\((ξ33.r 4)<=maxLen)/\(Fg [] (ξ33.r 4) (DL (Am c T) ξ33.k))/\(r58=r58)/\(9=9)/\((((Wt c T ξ33).2).cells:List Value)=BF ((Wt c T ξ33).2).cells 0 (1*9))/\((((Wt c T ξ33).2).cells:List Value).length=1*9)/\(∀u∈(((Wt c T ξ33).2).cells:List Value),u.oneCell'=true)/\(ξ33.k+1<=maxLen)/\((ξ33.k+1)*40<=140737488355328))from⟨rfl,(by simp),(FQ _ _),(by omega),LM,trivial,rfl,rfl,rfl,rfl,List.forall_mem_cons.2 ⟨rfl,List.forall_mem_cons.2 ⟨rfl,List.forall_mem_cons.2 ⟨rfl,List.forall_mem_cons.2 ⟨rfl,List.forall_mem_cons.2 ⟨rfl,List.forall_mem_cons.2 ⟨rfl,List.forall_mem_cons.2 ⟨rfl,List.forall_mem_cons.2 ⟨rfl,List.forall_mem_cons.2 ⟨rfl,(λ_ h=>nomatch h)⟩⟩⟩⟩⟩⟩⟩⟩⟩,(Nat.le_trans (by omega:ξ33.k+1<=5000) (by decide)),(by omega)⟩) (λ(g62:Nat)(p63:Nat)(hp63:ξ33.k+1<=p63)(mp63:p63<=maxLen)=>And.intro trivial (aI (vE (a:=(IntKind.i64.wrap (((ξ33.k:Nat):Int)+1))) (b:=((ξ33.k+1:Nat):Int)) (by rw[BE (by omega)];rfl)) ((FY (Ax 34 [false,false,true] [.code (Tryz.f26.body.getD .skip)]) I34 M35 (S36 r1 Y4 r12 r24) ξ33 ((Z67 ξ33 r46 Y4 r58 g62 p63 Y51)) (show(1<=(Z67 ξ33 r46 Y4 r58 g62 p63 Y51).k/\(Z67 ξ33 r46 Y4 r58 g62 p63 Y51).k<=n/\(Z67 ξ33 r46 Y4 r58 g62 p63 Y51).k<=(Z67 ξ33 r46 Y4 r58 g62 p63 Y51).r 4/\(Z67 ξ33 r46 Y4 r58 g62 p63 Y51).r 4<=maxLen)from by(exact⟨by show 1<=ξ33.k+1;omega,by show ξ33.k+1<=n;omega,by show ξ33.k+1<=p63;omega,mp63⟩)) (show(n-(Z67 ξ33 r46 Y4 r58 g62 p63 Y51).k)<(n-ξ33.k)from by(show n-(ξ33.k+1)<n-ξ33.k);(omega)) [(r46,(T ξ33.k).cells),(r58,((Wt c T ξ33).2).cells)] [] [(0,25,31),(5,Ad,31),(6,39,4),(7,36,9),(8,36,p63*9),(9,39,4),(4,(Ao ((Wt c T ξ33).1).zs (Y51 1)),(An ((Wt c T ξ33).1).zs (Y51 2))),(10,36,9)] (by first|exactλ_ h=>h|(simp[S36];done)|(simp[S36];repeat' (first|rfl|apply And.intro))) (by first|exactλ_ h=>h|(simp[S36];done)|(simp[S36];repeat' (first|rfl|apply And.intro))) (by kernel_rfl)))))))))))))) (λ(h68:(decide (((ξ33.k:Nat):Int)<(n:Int)))=false)=>hv (show¬(((ξ33.k:Nat):Int)<(n:Int))from(by simpa using h68)) (λh68p=>aI trivial ((show AO B R bs38 [] rs44 [] (.tuple #[.slice (some ⟨(ξ33.r 3),0,none⟩) ξ33.k (ξ33.r 4),vI 0])from by
      have E:ξ33.k=n:=by omega
      exactλW hS=>⟨(ξ33.r 3),(ξ33.r 4),by rw[E],by rw[<-E];exact(hS.sel [8] rfl (by decide)).norows⟩)))))))))))))))))))))))))))
end Go.Proofs.YtikajapjkdloaaaGreatDoor
