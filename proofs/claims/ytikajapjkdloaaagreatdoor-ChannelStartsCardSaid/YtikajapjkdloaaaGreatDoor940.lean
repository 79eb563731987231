/- Layer 20 (channel): seek. The first samples stand in a row that is there from the first one on; ahead of it another block, of which nothing is known, holds its place. -/
import Derived.Test.YtikajapjkdloaaaGreatDoor939
namespace Go.Proofs.YtikajapjkdloaaaGreatDoor
set_option linter.unusedVariables false
set_option linter.unusedSimpArgs false
set_option maxRecDepth 1000000
set_option maxHeartbeats 8000000
open Go.RowKit
section
def Ao(zs:List Int)(e:TypeId):TypeId:=match zs with
 | []=>e
 |_::_=>2
def An(zs:List Int)(n:Nat):Nat:=match zs with
 | []=>n
 |_::_=>min n maxLen*1
def fv(zs:List Int)(r n:Nat):Value:=match zs with
 | []=>.slice none 0 0
 |z::t=>.slice (some ⟨r,0,none⟩) (z::t).length (min n maxLen)
theorem Jm{zs:List Int}(h:zs≠ [])(r n:Nat):fv zs r n=.slice (some ⟨r,0,none⟩) zs.length (min n maxLen):=by cases zs;exact absurd rfl h;rfl
theorem H6{zs:List Int}(h:zs≠ [])(e:TypeId):Ao zs e=2:=by cases zs;exact absurd rfl h;rfl
theorem H8{zs:List Int}(h:zs≠ [])(n:Nat):An zs n=min n maxLen*1:=by cases zs;exact absurd rfl h;rfl
abbrev zL(zs:List Int):List Value:=zs.map (Value.int .i64)
theorem I3(zs:List Int)(z:Int):zL zs++[.int .i64 z]=zL (zs++[z]):=by simp[zL]
theorem Sx.rowlen{B:Base}{W:World}{bs:AD}{gs:BN}{rs:Aw}{os:DV}(h:Sx B W bs gs rs os){k b n:Nat}{e:TypeId}{cs:List Value}(hr:(k,e,n)∈rs)(hk:bs[k]? =some (b,cs)):cs.length<=n:=by
 obtain⟨b',cs',cur,q1,q2,q3⟩:=h.rw _ hr
 rw[hk]at q1
 obtain⟨rfl,rfl⟩:=Prod.mk.inj (Option.some.inj q1)
 rcases Nat.eq_zero_or_pos cs.length with q|q
 ·omega
 have hc:=h.cell k (cs.length-1) hk (List.getElem?_eq_getElem en)
 rw[Ce q2]at hc
 have:=(Array.getElem?_eq_some_iff.1 hc).1
 dsimp only at q3
 omega
theorem R9(zs:List Int)(b c n:Nat)(hn:n=16)(hl:zs.length=16)(hz: ∀j,j<16->Ag (zs.getD j 0)=true)(w:World)(hb:b<w.heap.size)(hc: ∀(i:Nat)(v:Value),(zs.map (Value.int .i64))[i]? =some v->w.cell? ⟨b,i,none⟩=some v):
 Calls Tryz.prog 93 #[.slice (some ⟨b,0,none⟩) n c] w λe w'=>e=.returned (.tuple #[.int .i64 (EK zs),.int .i64 0])/\Below w.heap.size w w':=by
 subst hn;exact TL zs b c hl hz w hb hc
theorem Ml(zs:List Int)(M:Int)(hM:EK zs=M)(b c n:Nat)(hn:n=16)(hl:zs.length=16)(hz: ∀j,j<16->Ag (zs.getD j 0)=true)(w:World)(hb:b<w.heap.size)(hc: ∀(i:Nat)(v:Value),(zs.map (Value.int .i64))[i]? =some v->w.cell? ⟨b,i,none⟩=some v):
 Calls Tryz.prog 93 #[.slice (some ⟨b,0,none⟩) n c] w λe w'=>e=.returned (.tuple #[.int .i64 M,.int .i64 0])/\Below w.heap.size w w':=by
 subst hM;exact R9 zs b c n hn hl hz w hb hc
theorem Jj{x A:Int}(hx:Ag x=true)(hA:Bp x=A)(w:World)(h:GT w):Calls Tryz.prog 94 #[.int .i64 x] w λe w'=>e=.returned (.tuple #[.int .i64 A,.int .i64 0])/\Below w.heap.size w w':=by
 subst hA;exact H9 hx w h
theorem Ef{zs:List Int}{z:Int}(hz: ∀y∈zs,Ag y=true)(h:Ag z=true)(hl:zs.length=15): ∀j,j<16->Ag ((zs++[z]).getD j 0)=true:=by
 intro j hj
 have hj':j<(zs++[z]).length:=by simp;omega
 rw[List.getD_eq_getElem?_getD,List.getElem?_eq_getElem hj']
 have:(zs++[z])[j]∈zs++[z]:=List.getElem_mem hj'
 show Ag ((zs++[z])[j])=true
 rcases List.mem_append.1 this with q|q
 ·exact hz _ q
 rw[List.mem_singleton.1 q];exact h
theorem J9(ch:Nat)(x p:Nat->Int)(c:Nat->Int)(f g r:Nat)(m s:Int)(gc:Int)(kn:Bool)(zs:List Int)(e n:Nat)(z:Int)(hc: ∀i,Ai (c i))(hz:Ag z=true)(h0:zs=[])(w:World)(hS0:Sx (AH w [(ch,(Af x p c f g (.slice none 0 0) m s)),(g,(Ak c gc kn)),(r,[])] []) w [(ch,(Af x p c f g (.slice none 0 0) m s)),(g,(Ak c gc kn)),(r,[])] [] [(2,e,n)] [])(hA:GA w)(hn:NA (AH w [(ch,(Af x p c f g (.slice none 0 0) m s)),(g,(Ak c gc kn)),(r,[])] []).X):Calls Tryz.prog 36 #[.pointer (some ⟨ch,0,none⟩),.int .i64 z] w (λe' w'=> ∃r' n':Nat,e'=.returned (.bool false)/\Sx (AH w [(ch,(Af x p c f g (.slice none 0 0) m s)),(g,(Ak c gc kn)),(r,[])] []) w' [(ch,Af x p c f g (fv (zs++[z]) r' n') m s),(g,Ak c gc kn),(r',zL (zs++[z]))] [] [(2,Ao (zs++[z]) 0,An (zs++[z]) n')] []):=by
 exact(let B:Base:=(AH w [(ch,(Af x p c f g (.slice none 0 0) m s)),(g,(Ak c gc kn)),(r,[])] []);let R:Ending->World->Prop:=(λe' w'=> ∃r' n':Nat,e'=.returned (.bool false)/\Sx (AH w [(ch,(Af x p c f g (.slice none 0 0) m s)),(g,(Ak c gc kn)),(r,[])] []) w' [(ch,Af x p c f g (fv (zs++[z]) r' n') m s),(g,Ak c gc kn),(r',zL (zs++[z]))] [] [(2,Ao (zs++[z]) 0,An (zs++[z]) n')] []);AC (f:=36) (B:=B) (R:=R) (es:=[]) (c:=Tryz.f36.body.getD .skip) (tmps:=#[vP ch,vI z,vN,vN,vN,vN,vN,vN,vN,vN,vN,vN,vN,vN,vN,vN,vN,vN,vN,vN,vN,vN,vN,vN,vN,vN,vN,vN,vN,vN,vN,vN,vN,vN,vN,vN,vN,vN,vN,vN,vN,vN,vN,vN,vN,vN,vN,vN,vN,vN,vN,vN,vN,vN,vN,vN])
  (.s [.c,.c,.v,.c,.c,.c,.v,.v,.v,.v,.own 0,.v] (.new (λr4=>.app none true 3 [vI z] (λg7 p8=>.s [.v,.v,.put 0] (.s [.c,.c,.c,.c,.v,.v,.v,.own 0,.v,.v,.c,.c,.c,.c,.v,.c] (.ret []))))))
  el hS0 ExX.nil Tryz.func36 el el (Eq.mp el (let e2:Nat×List Value:=(ch,(Af x p c f g (.slice none 0 0) m s));aI (Eq.refl ch) (λ(r4:Nat)=>aI (show(((none:Option Addr)=none)/\(0=0)/\(0=0)/\(r4=r4)/\(1=1)/\(([vI z]:List Value)=BF [vI z] 0 (1*1))/\(([vI z]:List Value).length=1*1)/\(0<1)/\(1<=maxLen)/\(1*8<=140737488355328))from⟨rfl,rfl,rfl,rfl,rfl,rfl,rfl,by decide,by decide,by decide⟩) (λ(g7:Nat)(p8:Nat)(hp8:1<=p8)(mp8:p8<=maxLen)=>And.intro trivial (let rs10:Aw:=[(2,e,n),(3,2,1),(4,2,p8*1)];aI (A_ ch) (aI trivial (let e12:Nat×List Value:=(ch,(Af x p c f g (vS g7 1 p8) m s));let bs11:AD:=[e12,(g,(Ak c gc kn)),(r,[]),(r4,[vI z]),(g7,[vI z])];aI (Eq.refl ch) (aI trivial ((show AO B R bs11 [] rs10 [] (vF)from by
     exactλW hS=>⟨g7,p8,rfl,by
          subst h0
          have e1:fv ([]++[z]) g7 p8=vS g7 1 p8:=by rw[Jm (by simp),Nat.min_eq_left mp8];rfl
          have e2:An ([]++[z]) p8=p8*1:=by rw[H8 (by simp),Nat.min_eq_left mp8]
          have e3:Ao ([]++[z]) 0=2:=H6 (by simp) 0
          rw[e1,e2,e3]
          exact(hS.sel [0,1,4] rfl eo).rows (by simp[rs10,List.idxOf?,List.findIdx?,List.findIdx?.go])⟩)))))))))))
theorem Iz(ch:Nat)(x p:Nat->Int)(c:Nat->Int)(f g r:Nat)(m s:Int)(gc:Int)(kn:Bool)(zs:List Int)(e n:Nat)(z:Int)(hc: ∀i,Ai (c i))(hz:Ag z=true)(h0:zs≠ [])(hzs: ∀y∈zs,Ag y=true)(hl:zs.length<15)(w:World)(hS0:Sx (AH w [(ch,(Af x p c f g (.slice (some ⟨r,0,none⟩) zs.length (min n maxLen)) m s)),(g,(Ak c gc kn)),(r,(zL zs))] []) w [(ch,(Af x p c f g (.slice (some ⟨r,0,none⟩) zs.length (min n maxLen)) m s)),(g,(Ak c gc kn)),(r,(zL zs))] [] [(2,2,min n maxLen*1)] [])(hA:GA w)(hn:NA (AH w [(ch,(Af x p c f g (.slice (some ⟨r,0,none⟩) zs.length (min n maxLen)) m s)),(g,(Ak c gc kn)),(r,(zL zs))] []).X):Calls Tryz.prog 36 #[.pointer (some ⟨ch,0,none⟩),.int .i64 z] w (λe' w'=> ∃r' n':Nat,e'=.returned (.bool false)/\Sx (AH w [(ch,(Af x p c f g (.slice (some ⟨r,0,none⟩) zs.length (min n maxLen)) m s)),(g,(Ak c gc kn)),(r,(zL zs))] []) w' [(ch,Af x p c f g (fv (zs++[z]) r' n') m s),(g,Ak c gc kn),(r',zL (zs++[z]))] [] [(2,Ao (zs++[z]) 0,An (zs++[z]) n')] []):=by
 have HL:zs.length<=min n maxLen:=by have q:=hS0.rowlen (k:=2) (b:=r) (cs:=zL zs) (List.mem_cons_self ..) rfl;simpa[zL]using q
 exact(let B:Base:=(AH w [(ch,(Af x p c f g (.slice (some ⟨r,0,none⟩) zs.length (min n maxLen)) m s)),(g,(Ak c gc kn)),(r,(zL zs))] []);let R:Ending->World->Prop:=(λe' w'=> ∃r' n':Nat,e'=.returned (.bool false)/\Sx (AH w [(ch,(Af x p c f g (.slice (some ⟨r,0,none⟩) zs.length (min n maxLen)) m s)),(g,(Ak c gc kn)),(r,(zL zs))] []) w' [(ch,Af x p c f g (fv (zs++[z]) r' n') m s),(g,Ak c gc kn),(r',zL (zs++[z]))] [] [(2,Ao (zs++[z]) 0,An (zs++[z]) n')] []);AC (f:=36) (B:=B) (R:=R) (es:=[]) (c:=Tryz.f36.body.getD .skip) (tmps:=#[vP ch,vI z,vN,vN,vN,vN,vN,vN,vN,vN,vN,vN,vN,vN,vN,vN,vN,vN,vN,vN,vN,vN,vN,vN,vN,vN,vN,vN,vN,vN,vN,vN,vN,vN,vN,vN,vN,vN,vN,vN,vN,vN,vN,vN,vN,vN,vN,vN,vN,vN,vN,vN,vN,vN,vN,vN])
  (.s [.c,.c,.v,.c,.c,.c,.v,.v,.v,.v,.own 0,.v] (.new (λr4=>.app (some 2) true 3 [vI z] (λg7 p8=>.s [.v,.v,.put 0] (.s [.c,.c,.c,.c,.v,.v,.v,.own 0,.v,.v,.c,.setv 24 (vT),.c,.c,.c,.v,.c] (.ret []))))))
  el hS0 ExX.nil Tryz.func36 el el (Eq.mp el (let e2:Nat×List Value:=(ch,(Af x p c f g (vS r zs.length (min n maxLen)) m s));aI (Eq.refl ch) (λ(r4:Nat)=>aI (show((some (⟨r,0,none⟩:Addr)=some ⟨r,0,none⟩)/\((2,2,(min n maxLen)*1)∈([(2,2,min n maxLen*1),(3,2,1)]:Aw))/\(((zL zs):List Value).length=zs.length*1)/\(zs.length<=(min n maxLen))/\((min n maxLen)<=maxLen)/\(Fg [] (min n maxLen) (zL zs))/\(r4=r4)/\(1=1)/\(([vI z]:List Value)=BF [vI z] 0 (1*1))/\(([vI z]:List Value).length=1*1)/\(∀u∈([vI z]:List Value),u.oneCell'=true)/\(zs.length+1<=maxLen)/\((zs.length+1)*8<=140737488355328))from⟨rfl,(by simp),(by simp[zL]),HL,(Nat.min_le_right _ _),trivial,rfl,rfl,rfl,rfl,List.forall_mem_cons.2 ⟨rfl,(λ_ h=>nomatch h)⟩,(Nat.le_trans (by omega:zs.length+1<=1000) eo),en⟩) (λ(g7:Nat)(p8:Nat)(hp8:zs.length+1<=p8)(mp8:p8<=maxLen)=>And.intro trivial (let e10:Nat×List Value:=(g7,((zL zs)++[vI z]));let rs11:Aw:=[(2,2,p8*1),(3,2,1)];aI (A_ ch) (aI trivial (let e13:Nat×List Value:=(ch,(Af x p c f g (vS g7 (zs.length+1) p8) m s));let bs12:AD:=[e13,(g,(Ak c gc kn)),e10,(r4,[vI z])];aI (Eq.refl ch) (aI (vB (a:=(decide (((zs.length+1:Nat):Int)<16))) (b:=true) (decide_eq_true en)) (aI trivial ((show AO B R bs12 [] rs11 [] (vF)from by
     exactλW hS=>⟨g7,p8,rfl,by
          have e1:fv (zs++[z]) g7 p8=vS g7 (zs.length+1) p8:=by rw[Jm (by simp),Nat.min_eq_left mp8];simp
          have e2:An (zs++[z]) p8=p8*1:=by rw[H8 (by simp),Nat.min_eq_left mp8]
          have e3:Ao (zs++[z]) 0=2:=H6 (by simp) 0
          rw[e1,e2,e3,<-I3]
          exact(hS.sel [0,1,2] rfl eo).rows (by simp[rs11,List.idxOf?,List.findIdx?,List.findIdx?.go])⟩))))))))))))
theorem Hz(ch:Nat)(x p:Nat->Int)(c:Nat->Int)(f g r:Nat)(m s:Int)(gc:Int)(kn:Bool)(zs:List Int)(e n:Nat)(z:Int)(hc: ∀i,Ai (c i))(hz:Ag z=true)(h0:zs≠ [])(hzs: ∀y∈zs,Ag y=true)(hl:zs.length=15)(M A:Int)(hM:EK (zs++[z])=M)(hAl:Bp M=A)(w:World)(hS0:Sx (AH w [(ch,(Af x p c f g (.slice (some ⟨r,0,none⟩) zs.length (min n maxLen)) m s)),(g,(Ak c gc false)),(r,(zL zs))] []) w [(ch,(Af x p c f g (.slice (some ⟨r,0,none⟩) zs.length (min n maxLen)) m s)),(g,(Ak c gc false)),(r,(zL zs))] [] [(2,2,min n maxLen*1)] [])(hA:GA w)(hn:NA (AH w [(ch,(Af x p c f g (.slice (some ⟨r,0,none⟩) zs.length (min n maxLen)) m s)),(g,(Ak c gc false)),(r,(zL zs))] []).X):Calls Tryz.prog 36 #[.pointer (some ⟨ch,0,none⟩),.int .i64 z] w (λe' w'=> ∃r' n':Nat,e'=.returned (.bool true)/\Sx (AH w [(ch,(Af x p c f g (.slice (some ⟨r,0,none⟩) zs.length (min n maxLen)) m s)),(g,(Ak c gc false)),(r,(zL zs))] []) w' [(ch,Af (v3 A 0 0) (v6 (c 8) 0 0 (c 9) 0 (c 10)) c f g (fv (zs++[z]) r' n') m s),(g,Ak c M true),(r',zL (zs++[z]))] [] [(2,Ao (zs++[z]) 0,An (zs++[z]) n')] []):=by
 have HL:zs.length<=min n maxLen:=by have q:=hS0.rowlen (k:=2) (b:=r) (cs:=zL zs) (List.mem_cons_self ..) rfl;simpa[zL]using q
 have hgm:Ag M=true:=by rw[<-hM];exact EU (Ef hzs hz hl)
 exact(let B:Base:=(AH w [(ch,(Af x p c f g (.slice (some ⟨r,0,none⟩) zs.length (min n maxLen)) m s)),(g,(Ak c gc false)),(r,(zL zs))] []);let R:Ending->World->Prop:=(λe' w'=> ∃r' n':Nat,e'=.returned (.bool true)/\Sx (AH w [(ch,(Af x p c f g (.slice (some ⟨r,0,none⟩) zs.length (min n maxLen)) m s)),(g,(Ak c gc false)),(r,(zL zs))] []) w' [(ch,Af (v3 A 0 0) (v6 (c 8) 0 0 (c 9) 0 (c 10)) c f g (fv (zs++[z]) r' n') m s),(g,Ak c M true),(r',zL (zs++[z]))] [] [(2,Ao (zs++[z]) 0,An (zs++[z]) n')] []);AC (f:=36) (B:=B) (R:=R) (es:=[]) (c:=Tryz.f36.body.getD .skip) (tmps:=#[vP ch,vI z,vN,vN,vN,vN,vN,vN,vN,vN,vN,vN,vN,vN,vN,vN,vN,vN,vN,vN,vN,vN,vN,vN,vN,vN,vN,vN,vN,vN,vN,vN,vN,vN,vN,vN,vN,vN,vN,vN,vN,vN,vN,vN,vN,vN,vN,vN,vN,vN,vN,vN,vN,vN,vN,vN])
  (.s [.c,.c,.v,.c,.c,.c,.v,.v,.v,.v,.own 0,.v] (.new (λr4=>.app (some 2) true 3 [vI z] (λg7 p8=>.s [.v,.v,.put 0] (.s [.c,.c,.c,.c,.v,.v,.v,.own 0,.v,.v,.c,.setv 24 (vF),.c,.c,.c,.c,.v,.v,.v,.own 0,.call (.tuple #[vI M,vI 0]),.v,.v,.v,.v,.v,.c,.c,.c,.v,.call (.tuple #[vI A,vI 0]),.v,.v,.v,.v,.v,.c,.c,.c,.v,.v,.v,.v,.v,.v,.v,.own 0,.call (.agg #[vI (c 8),vI 0,vI 0,vI (c 9),vI 0,vI (c 10)]),.v,.v,.v,.put 0] (.s [.c,.c,.c,.v,.v,.v,.own 0,.v] (.mut (λ(R16:Nat->Nat)=>(vI 0,[(ch,(Af (v3 A 0 0) (v6 (c 8) 0 0 (c 9) 0 (c 10)) c f g (vS g7 (zs.length+1) p8) m s)),(g,(Ak c M true)),(g7,((zL zs)++[vI z])),(r4,[vI z])],[(2,2,p8*1),(3,2,1)])) (λR16=>.s [.c,.c,.c,.v,.c] (.ret [])))))))))
  el hS0 ExX.nil Tryz.func36 el el (Eq.mp el (let e2:Nat×List Value:=(ch,(Af x p c f g (vS r zs.length (min n maxLen)) m s));let bs1:AD:=[e2,(g,(Ak c gc false)),(r,(zL zs))];aI (Eq.refl ch) (λ(r4:Nat)=>aI (show((some (⟨r,0,none⟩:Addr)=some ⟨r,0,none⟩)/\((2,2,(min n maxLen)*1)∈([(2,2,min n maxLen*1),(3,2,1)]:Aw))/\(((zL zs):List Value).length=zs.length*1)/\(zs.length<=(min n maxLen))/\((min n maxLen)<=maxLen)/\(Fg [] (min n maxLen) (zL zs))/\(r4=r4)/\(1=1)/\(([vI z]:List Value)=BF [vI z] 0 (1*1))/\(([vI z]:List Value).length=1*1)/\(∀u∈([vI z]:List Value),u.oneCell'=true)/\(zs.length+1<=maxLen)/\((zs.length+1)*8<=140737488355328))from⟨rfl,(by simp),(by simp[zL]),HL,(Nat.min_le_right _ _),trivial,rfl,rfl,rfl,rfl,List.forall_mem_cons.2 ⟨rfl,(λ_ h=>nomatch h)⟩,(Nat.le_trans (by omega:zs.length+1<=1000) eo),en⟩) (λ(g7:Nat)(p8:Nat)(hp8:zs.length+1<=p8)(mp8:p8<=maxLen)=>And.intro trivial (let e10:Nat×List Value:=(g7,((zL zs)++[vI z]));let rs11:Aw:=[(2,2,p8*1),(3,2,1)];aI (A_ ch) (aI trivial (let e13:Nat×List Value:=(ch,(Af x p c f g (vS g7 (zs.length+1) p8) m s));let bs12:AD:=[e13,(g,(Ak c gc false)),e10,(r4,[vI z])];aI (Eq.refl ch) (aI (vB (a:=(decide (((zs.length+1:Nat):Int)<16))) (b:=false) (decide_eq_false en)) (aI (Eq.refl ch) (aI (cv B bs12 [] rs11 [] ((λW hS=>Ml (zs++[z]) M hM g7 p8 (zs.length+1) en (by simp;omega) (Ef hzs hz hl) W (hS.ltk 2 rfl) (λi v h=>hS.cell 2 i rfl (by rw[I3];exact h))))) (aI (cv B bs12 [] rs11 [] ((λW hS=>Jj hgm hAl W (hA.of hS hn).gt))) (aI (Eq.refl ch) (aI (cv B bs12 [] rs11 [] ((λW hS=>Gy (λi=>c (8+i)) W))) (aI (FV ch) (aI trivial (let e15:Nat×List Value:=(ch,(Af (v3 A 0 0) (v6 (c 8) 0 0 (c 9) 0 (c 10)) c f g (vS g7 (zs.length+1) p8) m s));let bs14:AD:=[e15,(g,(Ak c gc false)),e10,(r4,[vI z])];aI (Eq.refl ch) (aI (CallMX.of (B:=B) (bs:=bs14) (rs:=rs11) (os:=[]) (ks:=[1]) (bs0:=[(g,(Ak c gc false))]) (rs0:=[]) (os0:=[]) (V:= λρ=>vI 0) (bs1:= λρ=>[(g,(Ak c M true))]) (rs1:= λρ=>[]) [0,4,2,3] (λW hW hH=>Jz g (max (c 30) 0) (c 6) (c 7) gc M hgm W hH) rfl rfl eo (λ_ h=>by cases h) (List.nil_sublist _) (λ_=>rfl) eo (λ_=>rfl)) (λ(R16:Nat->Nat)=>And.intro trivial (let bs17:AD:=[e15,(g,(Ak c M true)),e10,(r4,[vI z])];aI trivial ((show AO B R bs17 [] rs11 [] (vT)from by
     exactλW hS=>⟨g7,p8,rfl,by
          have e1:fv (zs++[z]) g7 p8=vS g7 (zs.length+1) p8:=by rw[Jm (by simp),Nat.min_eq_left mp8];simp
          have e2:An (zs++[z]) p8=p8*1:=by rw[H8 (by simp),Nat.min_eq_left mp8]
          have e3:Ao (zs++[z]) 0=2:=H6 (by simp) 0
          rw[e1,e2,e3,<-I3]
          exact(hS.sel [0,1,2] rfl eo).rows (by simp[rs11,List.idxOf?,List.findIdx?,List.findIdx?.go])⟩))))))))))))))))))))))
theorem Hv(ch:Nat)(x p:Nat->Int)(c:Nat->Int)(f g r:Nat)(m s:Int)(gc:Int)(kn:Bool)(zs:List Int)(e n:Nat)(z:Int)(hc: ∀i,Ai (c i))(hz:Ag z=true)(h0:zs≠ [])(hzs: ∀y∈zs,Ag y=true)(hl:zs.length=15)(M A:Int)(hM:EK (zs++[z])=M)(hAl:Bp M=A)(w:World)(hS0:Sx (AH w [(ch,(Af x p c f g (.slice (some ⟨r,0,none⟩) zs.length (min n maxLen)) m s)),(g,(Ak c gc true)),(r,(zL zs))] []) w [(ch,(Af x p c f g (.slice (some ⟨r,0,none⟩) zs.length (min n maxLen)) m s)),(g,(Ak c gc true)),(r,(zL zs))] [] [(2,2,min n maxLen*1)] [])(hA:GA w)(hn:NA (AH w [(ch,(Af x p c f g (.slice (some ⟨r,0,none⟩) zs.length (min n maxLen)) m s)),(g,(Ak c gc true)),(r,(zL zs))] []).X):Calls Tryz.prog 36 #[.pointer (some ⟨ch,0,none⟩),.int .i64 z] w (λe' w'=> ∃r' n':Nat,e'=.returned (.bool true)/\Sx (AH w [(ch,(Af x p c f g (.slice (some ⟨r,0,none⟩) zs.length (min n maxLen)) m s)),(g,(Ak c gc true)),(r,(zL zs))] []) w' [(ch,Af (v3 A 0 0) (v6 (c 8) 0 0 (c 9) 0 (c 10)) c f g (fv (zs++[z]) r' n') m s),(g,Ak c gc true),(r',zL (zs++[z]))] [] [(2,Ao (zs++[z]) 0,An (zs++[z]) n')] []):=by
 have HL:zs.length<=min n maxLen:=by have q:=hS0.rowlen (k:=2) (b:=r) (cs:=zL zs) (List.mem_cons_self ..) rfl;simpa[zL]using q
 have hgm:Ag M=true:=by rw[<-hM];exact EU (Ef hzs hz hl)
 exact(let B:Base:=(AH w [(ch,(Af x p c f g (.slice (some ⟨r,0,none⟩) zs.length (min n maxLen)) m s)),(g,(Ak c gc true)),(r,(zL zs))] []);let R:Ending->World->Prop:=(λe' w'=> ∃r' n':Nat,e'=.returned (.bool true)/\Sx (AH w [(ch,(Af x p c f g (.slice (some ⟨r,0,none⟩) zs.length (min n maxLen)) m s)),(g,(Ak c gc true)),(r,(zL zs))] []) w' [(ch,Af (v3 A 0 0) (v6 (c 8) 0 0 (c 9) 0 (c 10)) c f g (fv (zs++[z]) r' n') m s),(g,Ak c gc true),(r',zL (zs++[z]))] [] [(2,Ao (zs++[z]) 0,An (zs++[z]) n')] []);AC (f:=36) (B:=B) (R:=R) (es:=[]) (c:=Tryz.f36.body.getD .skip) (tmps:=#[vP ch,vI z,vN,vN,vN,vN,vN,vN,vN,vN,vN,vN,vN,vN,vN,vN,vN,vN,vN,vN,vN,vN,vN,vN,vN,vN,vN,vN,vN,vN,vN,vN,vN,vN,vN,vN,vN,vN,vN,vN,vN,vN,vN,vN,vN,vN,vN,vN,vN,vN,vN,vN,vN,vN,vN,vN])
  (.s [.c,.c,.v,.c,.c,.c,.v,.v,.v,.v,.own 0,.v] (.new (λr4=>.app (some 2) true 3 [vI z] (λg7 p8=>.s [.v,.v,.put 0] (.s [.c,.c,.c,.c,.v,.v,.v,.own 0,.v,.v,.c,.setv 24 (vF),.c,.c,.c,.c,.v,.v,.v,.own 0,.call (.tuple #[vI M,vI 0]),.v,.v,.v,.v,.v,.c,.c,.c,.v,.call (.tuple #[vI A,vI 0]),.v,.v,.v,.v,.v,.c,.c,.c,.v,.v,.v,.v,.v,.v,.v,.own 0,.call (.agg #[vI (c 8),vI 0,vI 0,vI (c 9),vI 0,vI (c 10)]),.v,.v,.v,.put 0] (.s [.c,.c,.c,.v,.v,.v,.own 0,.v] (.mut (λ(R16:Nat->Nat)=>(vI 7,[(ch,(Af (v3 A 0 0) (v6 (c 8) 0 0 (c 9) 0 (c 10)) c f g (vS g7 (zs.length+1) p8) m s)),(g,(Ak c gc true)),(g7,((zL zs)++[vI z])),(r4,[vI z])],[(2,2,p8*1),(3,2,1)])) (λR16=>.s [.c,.c,.c,.v,.c] (.ret [])))))))))
  el hS0 ExX.nil Tryz.func36 el el (Eq.mp el (let e2:Nat×List Value:=(ch,(Af x p c f g (vS r zs.length (min n maxLen)) m s));let bs1:AD:=[e2,(g,(Ak c gc true)),(r,(zL zs))];aI (Eq.refl ch) (λ(r4:Nat)=>aI (show((some (⟨r,0,none⟩:Addr)=some ⟨r,0,none⟩)/\((2,2,(min n maxLen)*1)∈([(2,2,min n maxLen*1),(3,2,1)]:Aw))/\(((zL zs):List Value).length=zs.length*1)/\(zs.length<=(min n maxLen))/\((min n maxLen)<=maxLen)/\(Fg [] (min n maxLen) (zL zs))/\(r4=r4)/\(1=1)/\(([vI z]:List Value)=BF [vI z] 0 (1*1))/\(([vI z]:List Value).length=1*1)/\(∀u∈([vI z]:List Value),u.oneCell'=true)/\(zs.length+1<=maxLen)/\((zs.length+1)*8<=140737488355328))from⟨rfl,(by simp),(by simp[zL]),HL,(Nat.min_le_right _ _),trivial,rfl,rfl,rfl,rfl,List.forall_mem_cons.2 ⟨rfl,(λ_ h=>nomatch h)⟩,(Nat.le_trans (by omega:zs.length+1<=1000) eo),en⟩) (λ(g7:Nat)(p8:Nat)(hp8:zs.length+1<=p8)(mp8:p8<=maxLen)=>And.intro trivial (let e10:Nat×List Value:=(g7,((zL zs)++[vI z]));let rs11:Aw:=[(2,2,p8*1),(3,2,1)];aI (A_ ch) (aI trivial (let e13:Nat×List Value:=(ch,(Af x p c f g (vS g7 (zs.length+1) p8) m s));let bs12:AD:=[e13,(g,(Ak c gc true)),e10,(r4,[vI z])];aI (Eq.refl ch) (aI (vB (a:=(decide (((zs.length+1:Nat):Int)<16))) (b:=false) (decide_eq_false en)) (aI (Eq.refl ch) (aI (cv B bs12 [] rs11 [] ((λW hS=>Ml (zs++[z]) M hM g7 p8 (zs.length+1) en (by simp;omega) (Ef hzs hz hl) W (hS.ltk 2 rfl) (λi v h=>hS.cell 2 i rfl (by rw[I3];exact h))))) (aI (cv B bs12 [] rs11 [] ((λW hS=>Jj hgm hAl W (hA.of hS hn).gt))) (aI (Eq.refl ch) (aI (cv B bs12 [] rs11 [] ((λW hS=>Gy (λi=>c (8+i)) W))) (aI (FV ch) (aI trivial (let e15:Nat×List Value:=(ch,(Af (v3 A 0 0) (v6 (c 8) 0 0 (c 9) 0 (c 10)) c f g (vS g7 (zs.length+1) p8) m s));let bs14:AD:=[e15,(g,(Ak c gc true)),e10,(r4,[vI z])];aI (Eq.refl ch) (aI (CallMX.of (B:=B) (bs:=bs14) (rs:=rs11) (os:=[]) (ks:=[1]) (bs0:=[(g,(Ak c gc true))]) (rs0:=[]) (os0:=[]) (V:= λρ=>vI 7) (bs1:= λρ=>[(g,(Ak c gc true))]) (rs1:= λρ=>[]) [0,4,2,3] (λW hW hH=>Jw g (max (c 30) 0) (c 6) (c 7) gc M hgm W hH) rfl rfl eo (λ_ h=>by cases h) (List.nil_sublist _) (λ_=>rfl) eo (λ_=>rfl)) (λ(R16:Nat->Nat)=>And.intro trivial (aI trivial ((show AO B R bs14 [] rs11 [] (vT)from by
     exactλW hS=>⟨g7,p8,rfl,by
          have e1:fv (zs++[z]) g7 p8=vS g7 (zs.length+1) p8:=by rw[Jm (by simp),Nat.min_eq_left mp8];simp
          have e2:An (zs++[z]) p8=p8*1:=by rw[H8 (by simp),Nat.min_eq_left mp8]
          have e3:Ao (zs++[z]) 0=2:=H6 (by simp) 0
          rw[e1,e2,e3,<-I3]
          exact(hS.sel [0,1,2] rfl eo).rows (by simp[rs11,List.idxOf?,List.findIdx?,List.findIdx?.go])⟩))))))))))))))))))))))
end
section
theorem Sx.weak{B:Base}{W:World}{bs:AD}{gs:BN}{rs:Aw}{os:DV}(h:Sx B W bs gs rs os){k b:Nat}{cs:List Value}(hk:bs[k]? =some (b,cs)):Sx B W (bs.set k (b,[])) gs rs os:=by
 have hkl:k<bs.length:=(List.getElem?_eq_some_iff.1 hk).1
 obtain⟨k1,k2,k3,k4⟩:=h.blk _ (List.mem_of_getElem? hk)
 refine⟨h.bx,λx hx=> ?_,?_,h.bg,λr hr=> ?_,h.ob,h.on⟩
 ·rcases List.mem_or_eq_of_mem_set hx with hx|rfl
  ·exact h.blk x hx
  exact⟨k1,k2,k3,λi v hv=>by simp at hv⟩
 ·rw[List.map_set]
  have e1:(bs.map (·.1))[k]? =some b:=by rw[List.getElem?_map,hk];rfl
  have:(bs.map (·.1)).set k b=bs.map (·.1):=by
   apply List.ext_getElem?
   intro m
   rw[List.getElem?_set]
   by_cases em:k=m
   ·subst em;rw[if_pos rfl,e1,if_pos (by simpa using hkl)]
   rw[if_neg em]
  simp only[this]
  exact h.nd
 obtain⟨b',csr,cur,q1,q2,q3⟩:=h.rw r hr
 by_cases e1:k=r.1
 ·rw[<-e1,hk]at q1
  obtain⟨rfl,rfl⟩:=Prod.mk.inj (Option.some.inj q1)
  exact⟨b,[],cur,by rw[<-e1,List.getElem?_set,if_pos rfl,if_pos hkl],q2,q3⟩
 exact⟨b',csr,cur,by rw[List.getElem?_set,if_neg e1];exact q1,q2,q3⟩
def V9(zs:List Int)(z:Int):Int:=EK (zs++[z])
def Dx(x:Nat->Int)(zs:List Int)(z:Int):Nat->Int:=if zs.length=15 then v3 (Bp (V9 zs z)) 0 0 else x
def Ng(c p:Nat->Int)(zs:List Int):Nat->Int:=if zs.length=15 then v6 (c 8) 0 0 (c 9) 0 (c 10)else p
def NC(gc:Int)(kn:Bool)(zs:List Int)(z:Int):Int:=if zs.length=15/\kn=false then V9 zs z else gc
def NK(kn:Bool)(zs:List Int):Bool:=kn||decide (zs.length=15)
def Fy(zs:List Int):Bool:=decide (zs.length=15)
abbrev V4(ch f g r:Nat)(x p c:Nat->Int)(m s gc:Int)(kn:Bool)(zs:List Int)(n:Nat):AD:=[(ch,Af x p c f g (fv zs r n) m s),(g,Ak c gc kn),(r,zL zs)]
theorem Pv(ch:Nat)(x p:Nat->Int)(c:Nat->Int)(f g r:Nat)(m s:Int)(gc:Int)(kn:Bool)(zs:List Int)(e n:Nat)(z:Int)(hc: ∀i,Ai (c i))(hz:Ag z=true)(hzs: ∀y∈zs,Ag y=true)(hl:zs.length<=15)(w:World)
 (hS0:Sx (AH w (V4 ch f g r x p c m s gc kn zs n) []) w (V4 ch f g r x p c m s gc kn zs n) [] [(2,Ao zs e,An zs n)] [])(hA:GA w)(hn:NA (AH w (V4 ch f g r x p c m s gc kn zs n) []).X):
 Calls Tryz.prog 36 #[.pointer (some ⟨ch,0,none⟩),.int .i64 z] w λe' w'=> ∃r' n':Nat,e'=.returned (.bool (Fy zs))/\
  Sx (AH w (V4 ch f g r x p c m s gc kn zs n) []) w' [(ch,Af (Dx x zs z) (Ng c p zs) c f g (fv (zs++[z]) r' n') m s),(g,Ak c (NC gc kn zs z) (NK kn zs)),(r',zL (zs++[z]))] [] [(2,Ao (zs++[z]) 0,An (zs++[z]) n')] []:=by
 by_cases h0:zs=[]
 ·subst h0
  exact J9 ch x p c f g r m s gc kn [] e n z hc hz rfl w hS0 hA hn|>.mono λe' w'⟨r',n',h1,h2⟩=>⟨r',n',h1,by
   rw[show NK kn []=kn from Bool.or_false kn];exact h2⟩
 have ef:=Jm h0 r n
 have es:=H8 h0 n
 have et:=H6 h0 e
 unfold V4 at*
 rw[es,et]at hS0
 rw[ef]at hS0 hn⊢
 by_cases h15:zs.length=15
 ·have e1:Fy zs=true:=decide_eq_true h15
  have e2:Dx x zs z=v3 (Bp (EK (zs++[z]))) 0 0:=if_pos h15
  have e3:Ng c p zs=v6 (c 8) 0 0 (c 9) 0 (c 10):=if_pos h15
  have e4:NK kn zs=true:=by unfold NK;rw[decide_eq_true h15,Bool.or_true]
  rw[e1,e2,e3,e4]
  cases kn
  ·have e5:NC gc false zs z=EK (zs++[z]):=if_pos ⟨h15,rfl⟩
   rw[e5]
   exact Hz ch x p c f g r m s gc false zs e n z hc hz h0 hzs h15 _ _ rfl rfl w hS0 hA hn
  have e5:NC gc true zs z=gc:=if_neg (by simp)
  rw[e5]
  exact Hv ch x p c f g r m s gc true zs e n z hc hz h0 hzs h15 _ _ rfl rfl w hS0 hA hn
 have e1:Fy zs=false:=decide_eq_false h15
 have e2:Dx x zs z=x:=if_neg h15
 have e3:Ng c p zs=p:=if_neg h15
 have e4:NK kn zs=kn:=by unfold NK;rw[decide_eq_false h15,Bool.or_false]
 have e5:NC gc kn zs z=gc:=if_neg (λq=>h15 q.1)
 rw[e1,e2,e3,e4,e5]
 exact Iz ch x p c f g r m s gc kn zs e n z hc hz h0 hzs en w hS0 hA hn
theorem Dw{x:Nat->Int}{zs:List Int}{z:Int}(hx: ∀i,Ai (x i))(hz:Ag z=true)(hzs: ∀y∈zs,Ag y=true): ∀i,Ai (Dx x zs z i):=by
 unfold Dx
 split
 ·rename_i h15
  have a:=K0 (EU (Ef hzs hz h15))
  exact Hj (p:=Ai) (by unfold Ai V9;omega) eo eo
 exact hx
structure Chs where
 x:Nat->Int
 p:Nat->Int
 la:Int
 ru:Int
 zs:List Int
 gc:Int
 kn:Bool
 m:Int
 s:Int
structure Tk where
 a:Int
 has:Bool
 pr:Int
 sh:Bool
structure Td where
 mo:Int
 va:Bool
 ac:Bool
 re:Bool
 he:Bool
 gr:Bool
 al:Int
 sp:Int
 bi:Int
deriving DecidableEq
abbrev Td.val(t:Td):Value:=.agg #[.int .i64 t.mo,.bool t.va,.bool t.ac,.bool t.re,.bool t.he,.bool t.gr,.int .i64 t.al,.int .i64 t.sp,.int .i64 t.bi]
abbrev Tk.val(t:Tk):Value:=.agg #[.int .i64 t.a,.bool t.has,.int .i64 t.pr,.bool t.sh]
def Tk.ok(t:Tk):Bool:=t.has&&Ag t.pr
def BM(c:Nat->Int)(la a:Int):Int:=if AU c a=true then la else FC c a
def E4(c:Nat->Int)(ru a:Int):Int:=if AU c a=true then ru+1 else 0
def CL(c:Nat->Int)(ru a:Int):Bool:=AU c a&&decide (ru+1>c 27)
structure Mid where
 x:Nat->Int
 p:Nat->Int
 zs:List Int
 gc:Int
 kn:Bool
 ev:Int
 ac:Bool
 re:Bool
 gr:Bool
def CR(c:Nat->Int)(S:Chs)(t:Tk):Mid:=
 if CL c S.ru t.a=true then⟨S.x,S.p,S.zs,S.gc,S.kn,3,false,false,false⟩
 else if A8 S.m=true then
  if t.ok=true then⟨Dx S.x S.zs t.pr,Ng c S.p S.zs,S.zs++[t.pr],NC S.gc S.kn S.zs t.pr,NK S.kn S.zs,if Fy S.zs=true then 0 else 2,Fy S.zs,false,false⟩
  else⟨S.x,S.p,S.zs,S.gc,S.kn,2,false,false,false⟩
 else
  let X:=BZ c S.x (BM c S.la t.a);let P:=Bm c S.p (AU c t.a)
  if t.ok=true then⟨Do c X P S.gc S.kn t.sh t.pr,L0 c X P S.gc S.kn t.sh t.pr,S.zs,S.gc,S.kn,if DE c X P S.gc S.kn t.sh t.pr=true then 1 else 2,DE c X P S.gc S.kn t.sh t.pr, !DE c X P S.gc S.kn t.sh t.pr,H3 c S.gc S.kn t.pr⟩
  else⟨X,P,S.zs,S.gc,S.kn,2,false,false,false⟩
def Oo(S:Chs)(M:Mid)(m':Int):Bool:=M.ev==0||(M.ev==3||(A8 m'&& !A8 S.m))
def QD(c:Nat->Int)(S:Chs)(t:Tk)(M:Mid):Chs×Td:=
 let k:=Ar S.m S.s M.ev (c 28) (c 29)
 (⟨M.x,M.p,BM c S.la t.a,E4 c S.ru t.a,if Oo S M k.1=true then[]else M.zs,M.gc,M.kn,k.1,k.2⟩,
  ⟨k.1,A6 k.1,M.ac,M.re,AU c t.a,M.gr,if A6 k.1=true then BB (M.x 0)else 0,if A6 k.1=true then BB (M.x 1)else 0,if A6 k.1=true then BB (M.x 2)else 0⟩)
def AA(c:Nat->Int)(S:Chs)(t:Tk):Chs×Td:=QD c S t (CR c S t)
end
end Go.Proofs.YtikajapjkdloaaaGreatDoor
