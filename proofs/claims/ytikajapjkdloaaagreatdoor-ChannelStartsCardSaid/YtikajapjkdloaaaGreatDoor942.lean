/- Layer 20 (channel): Step in one; what holds of a channel from step to step. -/
import Derived.Test.YtikajapjkdloaaaGreatDoor941
import Derived.Laws.StructEq
namespace Go.Proofs.YtikajapjkdloaaaGreatDoor
set_option linter.unusedVariables false
set_option linter.unusedSimpArgs false
section
open Go.RowKit
structure ChI (c:Nat->Int) (S:Chs) (N:Nat):Prop where
 hx: ∀i,Ai (S.x i)
 hp: ∀i,Ai (S.p i)
 hla:Ai S.la
 hru:0<=S.ru/\S.ru<=(N:Int)
 hzs: ∀y∈S.zs,Ag y=true
 hl:S.zs.length<=15
 hgc:0<=S.gc/\S.gc<=430515
 hgd:S.kn=true->Ag S.gc=true
 hs:0<=S.s/\S.s<=c 29
theorem Vg{m s ev co out:Int}(h:0<=s/\s<=out):0<=(Ar m s ev co out).2/\(Ar m s ev co out).2<=out:=by
 unfold Ar Dc
 repeat' split
 all_goals simp only[decide_eq_true_eq]at*
 all_goals omega
theorem Vt{t:Tk}(h:t.ok=true):Ag t.pr=true:=by
 unfold Tk.ok at h;simp only[Bool.and_eq_true]at h;exact h.2
theorem UR{gc:Int}{kn:Bool}{zs:List Int}{z:Int}(hgc:0<=gc/\gc<=430515)(hz:Ag z=true)(hzs: ∀y∈zs,Ag y=true):0<=NC gc kn zs z/\NC gc kn zs z<=430515:=by
 unfold NC
 split
 ·rename_i h
  have:=FM (EU (Ef hzs hz h.1))
  unfold V9;omega
 exact hgc
theorem Rp{gc:Int}{kn:Bool}{zs:List Int}{z:Int}(hgd:kn=true->Ag gc=true)(hz:Ag z=true)(hzs: ∀y∈zs,Ag y=true)(h:NK kn zs=true):Ag (NC gc kn zs z)=true:=by
 unfold NC
 split
 ·rename_i q
  exact EU (Ef hzs hz q.1)
 rename_i q
 cases hk:kn
 ·exfalso
  apply q
  unfold NK at h
  rw[hk,Bool.false_or]at h
  exact⟨of_decide_eq_true h,hk⟩
 exact hgd hk
structure MidI (c:Nat->Int) (M:Mid):Prop where
 hx: ∀i,Ai (M.x i)
 hp: ∀i,Ai (M.p i)
 hzs: ∀y∈M.zs,Ag y=true
 hl:M.zs.length<=15∨M.ev=0
 hgc:0<=M.gc/\M.gc<=430515
 hgd:M.kn=true->Ag M.gc=true
theorem TV{c p:Nat->Int}{zs:List Int}(hc: ∀i,Ai (c i))(hp: ∀i,Ai (p i)): ∀i,Ai (Ng c p zs i):=by
 unfold Ng
 split
 ·exact OA (p:=Ai) (hc 8) eo eo (hc 9) eo (hc 10)
 exact hp
theorem TI{c:Nat->Int}{S:Chs}{N:Nat}(t:Tk)(hc: ∀i,Ai (c i))(h:ChI c S N):MidI c (CR c S t):=by
 unfold CR
 split
 ·exact⟨h.hx,h.hp,h.hzs,Or.inl h.hl,h.hgc,h.hgd⟩
 split
 ·split
  ·rename_i q
   have hz:=Vt q
   refine⟨Dw h.hx hz h.hzs,TV hc h.hp,λy hy=> ?_,?_,UR h.hgc hz h.hzs,Rp h.hgd hz h.hzs⟩
   ·rcases List.mem_append.1 hy with hy|hy
    ·exact h.hzs y hy
    rw[List.mem_singleton.1 hy];exact hz
   by_cases h15:S.zs.length=15
   ·exact Or.inr (if_pos (decide_eq_true h15))
   have:=h.hl
   refine Or.inl ?_
   show(S.zs++[t.pr]).length<=15
   rw[List.length_append,List.length_singleton];omega
  exact⟨h.hx,h.hp,h.hzs,Or.inl h.hl,h.hgc,h.hgd⟩
 split
 ·exact⟨C7 hc (B1 hc h.hx),TK (Ld h.hp),h.hzs,Or.inl h.hl,h.hgc,h.hgd⟩
 exact⟨B1 hc h.hx,Ld h.hp,h.hzs,Or.inl h.hl,h.hgc,h.hgd⟩
theorem MP{c:Nat->Int}{S:Chs}{N:Nat}(t:Tk)(hc: ∀i,Ai (c i))(hk:Ct c=0)(h:ChI c S N):ChI c (AA c S t).1 (N+1):=by
 have M:=TI t hc h
 have hru:=h.hru
 refine⟨M.hx,M.hp,LB hk h.hla,?_,?_,?_,M.hgc,M.hgd,Vg h.hs⟩
 ·show 0<=E4 c S.ru t.a/\E4 c S.ru t.a<=_
  unfold E4;split<;>omega
 ·show∀y∈(if Oo S (CR c S t) _=true then[]else(CR c S t).zs),_
  split
  ·intro y hy;cases hy
  exact M.hzs
 show(if Oo S (CR c S t) _=true then([]:List Int)else(CR c S t).zs).length<=15
 split
 ·exact Nat.zero_le _
 rename_i q
 rcases M.hl with l|l
 ·exact l
 exfalso;apply q
 unfold Oo;rw[l];rfl
abbrev T6(ch f g r:Nat)(c:Nat->Int)(S:Chs)(n:Nat):AD:=[(ch,Af S.x S.p c f g (fv S.zs r n) S.m S.s),(f,AG S.la S.ru c),(g,Ak c S.gc S.kn),(r,zL S.zs)]
abbrev Vf(S:Chs)(e n:Nat):Aw:=[(3,Ao S.zs e,An S.zs n)]
theorem CJ(ch f g r:Nat)(c:Nat->Int)(S:Chs)(N e0 n:Nat)(t:Tk)(hc: ∀i,Ai (c i))(hk:Ct c=0)(hI:ChI c S N)(hN:N<=100000)(w:World)
 (hS0:Sx (AH w (T6 ch f g r c S n) []) w (T6 ch f g r c S n) [] (Vf S e0 n) [])(hA:GA w)(hn:NA (AH w (T6 ch f g r c S n) []).X):
 Calls Tryz.prog 15 #[.pointer (some ⟨ch,0,none⟩),t.val] w λe' w'=> ∃r' e1 n':Nat,e'=.returned (AA c S t).2.val/\
  Sx (AH w (T6 ch f g r c S n) []) w' (T6 ch f g r' c (AA c S t).1 n') [] (Vf (AA c S t).1 e1 n') []:=by
 obtain⟨x,p,la,ru,zs,gc,kn,m,s⟩:=S
 obtain⟨a,has,pr,sh⟩:=t
 obtain⟨hx,hp,hla,hru,hzs,hl,hgc,hgd,hs⟩:=hI
 have ho:=Qx hk
 dsimp only at*
 have hru':0<=ru/\ru<=1000000:=by omega
 have hs':0<=s/\s<=1000000:=by omega
 unfold AA
 cases hlost:CL c ru a
 ·cases hsk:A8 m
  ·cases hok:(has&&Ag pr)
   ·have hM:CR c ⟨x,p,la,ru,zs,gc,kn,m,s⟩ ⟨a,has,pr,sh⟩=⟨BZ c x (BM c la a),Bm c p (AU c a),zs,gc,kn,2,false,false,false⟩:=by
     unfold CR Tk.ok;dsimp only;rw[hlost,hsk,hok];rfl
    have hR: ∀m',Oo ⟨x,p,la,ru,zs,gc,kn,m,s⟩ ⟨BZ c x (BM c la a),Bm c p (AU c a),zs,gc,kn,2,false,false,false⟩ m'=A8 m':=by
     intro m';unfold Oo;dsimp only;rw[hsk];simp
    rw[hM];unfold QD;dsimp only;rw[hR]
    exact S9 ch f g r x p c la ru zs gc kn m s e0 n a has pr sh hc hk hx hp hla hru' hzs hl hgc hgd hs' hlost hok hsk w hS0 hA hn
   have hM:CR c ⟨x,p,la,ru,zs,gc,kn,m,s⟩ ⟨a,has,pr,sh⟩=⟨Do c (BZ c x (BM c la a)) (Bm c p (AU c a)) gc kn sh pr,L0 c (BZ c x (BM c la a)) (Bm c p (AU c a)) gc kn sh pr,zs,gc,kn,if DE c (BZ c x (BM c la a)) (Bm c p (AU c a)) gc kn sh pr=true then 1 else 2,DE c (BZ c x (BM c la a)) (Bm c p (AU c a)) gc kn sh pr, !DE c (BZ c x (BM c la a)) (Bm c p (AU c a)) gc kn sh pr,H3 c gc kn pr⟩:=by
    unfold CR Tk.ok;dsimp only;rw[hlost,hsk,hok];rfl
   rw[hM]
   generalize hT:DE c (BZ c x (BM c la a)) (Bm c p (AU c a)) gc kn sh pr=T
   have hR: ∀m',Oo ⟨x,p,la,ru,zs,gc,kn,m,s⟩ ⟨Do c (BZ c x (BM c la a)) (Bm c p (AU c a)) gc kn sh pr,L0 c (BZ c x (BM c la a)) (Bm c p (AU c a)) gc kn sh pr,zs,gc,kn,if T=true then 1 else 2,T, !T,H3 c gc kn pr⟩ m'=A8 m':=by
    intro m';unfold Oo;dsimp only;rw[hsk];cases T<;>simp
   unfold QD;dsimp only;rw[hR,<-hT]
   exact O8 ch f g r x p c la ru zs gc kn m s e0 n a has pr sh hc hk hx hp hla hru' hzs hl hgc hgd hs' hlost hok hsk w hS0 hA hn
  cases hok:(has&&Ag pr)
  ·have hM:CR c ⟨x,p,la,ru,zs,gc,kn,m,s⟩ ⟨a,has,pr,sh⟩=⟨x,p,zs,gc,kn,2,false,false,false⟩:=by
    unfold CR Tk.ok;dsimp only;rw[hlost,hsk,hok];rfl
   have hR: ∀m',Oo ⟨x,p,la,ru,zs,gc,kn,m,s⟩ ⟨x,p,zs,gc,kn,2,false,false,false⟩ m'=false:=by
    intro m';unfold Oo;dsimp only;rw[hsk];simp
   rw[hM];unfold QD;dsimp only;rw[hR]
   exact PD ch f g r x p c la ru zs gc kn m s e0 n a has pr sh hc hk hx hp hla hru' hzs hl hgc hgd hs' hlost hok hsk w hS0 hA hn
  have hM:CR c ⟨x,p,la,ru,zs,gc,kn,m,s⟩ ⟨a,has,pr,sh⟩=⟨Dx x zs pr,Ng c p zs,zs++[pr],NC gc kn zs pr,NK kn zs,if Fy zs=true then 0 else 2,Fy zs,false,false⟩:=by
   unfold CR Tk.ok;dsimp only;rw[hlost,hsk,hok];rfl
  rw[hM]
  have hR: ∀m',Oo ⟨x,p,la,ru,zs,gc,kn,m,s⟩ ⟨Dx x zs pr,Ng c p zs,zs++[pr],NC gc kn zs pr,NK kn zs,if Fy zs=true then 0 else 2,Fy zs,false,false⟩ m'=Fy zs:=by
   intro m';unfold Oo;dsimp only;rw[hsk];cases Fy zs<;>simp
  unfold QD;dsimp only;rw[hR]
  exact PF ch f g r x p c la ru zs gc kn m s e0 n a has pr sh hc hk hx hp hla hru' hzs hl hgc hgd hs' hlost hok hsk w hS0 hA hn
 have hM:CR c ⟨x,p,la,ru,zs,gc,kn,m,s⟩ ⟨a,has,pr,sh⟩=⟨x,p,zs,gc,kn,3,false,false,false⟩:=by
  unfold CR;dsimp only;rw[hlost];rfl
 have hR: ∀m',Oo ⟨x,p,la,ru,zs,gc,kn,m,s⟩ ⟨x,p,zs,gc,kn,3,false,false,false⟩ m'=true:=by
  intro m';unfold Oo;dsimp only;simp
 rw[hM];unfold QD;dsimp only;rw[hR]
 exact QJ ch f g r x p c la ru zs gc kn m s e0 n a has pr sh hc hk hx hp hla hru' hzs hl hgc hgd hs' hlost w hS0 hA hn
end
section
set_option maxRecDepth 1000000
set_option maxHeartbeats 8000000
open Go.RowKit
theorem Sx.nb{w W:World}{bs:AD}{gs:BN}{rs:Aw}{os:DV}(h:Sx (⟨w,λ_=>False⟩:Base) W bs gs rs os):Sx (AH w [] []) W bs gs rs os:=
 ⟨h.bx.mono λ_ _ q=>q.elim,λx hx=>let⟨a,q⟩:=h.blk x hx;⟨a.elim Or.inl (λq=>q.elim),q⟩,h.nd,h.bg,h.rw,λy hy=>let⟨a,q⟩:=h.ob y hy;⟨a.elim Or.inl (λq=>q.elim),q⟩,h.on⟩
def S0:Chs:=⟨v3 0 0 0,v6 0 0 0 0 0 0,0,0,[],0,false,0,0⟩
theorem Ey(c:Nat->Int)(hk:Ct c=0):ChI c S0 0:=
 ⟨Hj (p:=Ai) eo eo eo,OA (p:=Ai) eo eo eo eo eo eo,by decide,by decide,(λ_ h=>nomatch h),by decide,by decide,(λh=>nomatch h),by have:=Qx hk;show(0:Int)<=0/\(0:Int)<=c 29;omega⟩
abbrev Ad:TypeId:=25
theorem QC(c:Nat->Int)(hc: ∀i,Ai (c i))(hk:Ct c=0)(w:World):Calls Tryz.prog 31 #[(cA c)] w (λe w'=> ∃r d:Nat,e=.returned (.tuple #[.pointer (some ⟨r,0,none⟩),.int .i64 0])/\Sx (⟨w,λ_=>False⟩:Base) w' [(r,AG 0 0 c),(d,[])] [] [(1,Ad,31)] []):=by
 exact(let B:Base:=(⟨w,λ_=>False⟩:Base);let R:Ending->World->Prop:=(λe w'=> ∃r d:Nat,e=.returned (.tuple #[.pointer (some ⟨r,0,none⟩),.int .i64 0])/\Sx (⟨w,λ_=>False⟩:Base) w' [(r,AG 0 0 c),(d,[])] [] [(1,Ad,31)] []);AC (f:=31) (B:=B) (R:=R) (es:=[]) (c:=Tryz.f31.body.getD .skip) (tmps:=#[(cA c),vN,vN,vN,vN,vN,vN,vN,vN,vN])
  (.s [.c,.c] (.new (λr1=>.s [.v,.v,.c,.c,.c,.c,.own 0,.call (vI 0),.v,.c,.c,.c,.c,.c,.own 0,.v] (.new (λr4=>.s [.v,.v,.c] (.ret []))))))
  el (Sx.refl w _) ExX.nil Tryz.func31 el el (Eq.mp el (λ(r1:Nat)=>let bs2:AD:=[(r1,(cL c))];let rs3:Aw:=[(0,25,31)];aI (Eq.refl r1) (aI (cv B bs2 [] rs3 [] ((λW hS=>Dz c hc hk W))) (aI (Eq.refl r1) (λ(r4:Nat)=>let bs5:AD:=[(r1,(cL c)),(r4,(AG 0 0 c))];let rs6:Aw:=[(0,25,31),(1,143,33)];aI trivial ((show AO B R bs5 [] rs6 [] (.tuple #[vP r4,vI 0])from by
     exactλW hS=>⟨_,_,rfl,((hS.weak (k:=0) rfl).sel [1,0] rfl eo).rows (by simp[rs6,List.idxOf?,List.findIdx?,List.findIdx?.go])⟩))))))))
theorem D9(c:Nat->Int)(hc: ∀i,Ai (c i))(hk:Ct c=0)(w:World):Calls Tryz.prog 13 #[(cA c)] w (λe w'=> ∃ch f g r d:Nat,e=.returned (.tuple #[.pointer (some ⟨ch,0,none⟩),.int .i64 0])/\Sx (⟨w,λ_=>False⟩:Base) w' (T6 ch f g r c S0 31++[(d,[])]) [] (Vf S0 Ad 31++[(4,Ad,31)]) []):=by
 exact(let B:Base:=(⟨w,λ_=>False⟩:Base);let R:Ending->World->Prop:=(λe w'=> ∃ch f g r d:Nat,e=.returned (.tuple #[.pointer (some ⟨ch,0,none⟩),.int .i64 0])/\Sx (⟨w,λ_=>False⟩:Base) w' (T6 ch f g r c S0 31++[(d,[])]) [] (Vf S0 Ad 31++[(4,Ad,31)]) []);AC (f:=13) (B:=B) (R:=R) (es:=[]) (c:=Tryz.f13.body.getD .skip) (tmps:=#[(cA c),vN,vN,vN,vN,vN,vN,vN,vN,vN,vN,vN,vN,vN,vN,vN,vN,vN,vN,vN,vN,vN,vN,vN,vN])
  (.s [.c,.c] (.new (λr1=>.s [.v,.v,.c,.c,.c,.own 0] (.mut (λ(ρ4:Nat->Nat)=>(.tuple #[vP (ρ4 0),vI 0],[(r1,(cL c)),((ρ4 0),(AG 0 0 c)),((ρ4 1),[])],[(0,25,31),(2,Ad,31)])) (λρ4=>.s [.v,.v,.v,.v,.v,.c,.c,.c,.c,.v,.v,.c,.c,.c,.c,.d [],.at 0 false,.own 0,.at 1 false,.v,.at 2 false,.v,.at 3 false,.own 0,.at 4 false,.v,.at 5 false,.own 0,.at 6 false,.v,.at 7 false,.own 0,.at 8 true] (.mut (λ(ρ7:Nat->Nat)=>(vP (ρ7 0),[(r1,(cL c)),((ρ4 0),(AG 0 0 c)),((ρ4 1),[]),((ρ7 0),(Ak c 0 false))],[(0,25,31),(2,Ad,31)])) (λρ7=>.s [.at 9 false,.v,.at 10 true] (.new (λr10=>.s [.at 11 false,.v,.at 12 false,.v,.c] (.ret []))))))))))
  el (Sx.refl w _) ExX.nil Tryz.func13 el el (Eq.mp el (λ(r1:Nat)=>let bs2:AD:=[(r1,(cL c))];let rs3:Aw:=[(0,25,31)];aI (Eq.refl r1) (aI (CallMX.of (B:=B) (bs:=bs2) (rs:=rs3) (os:=[]) (ks:=[]) (bs0:=[]) (rs0:=[]) (os0:=[]) (V:= λρ=>.tuple #[.pointer (some ⟨(ρ 0),0,none⟩),vI 0]) (bs1:= λρ=>[((ρ 0),(AG 0 0 c)),((ρ 1),[])]) (rs1:= λρ=>[(1,Ad,31)]) [0,1,2] (λW hW hH=>(QC c hc hk W).mono (λe' w' h=>h.elim λr h=>h.elim λd h=>⟨rn r d,h.1,h.2.nb⟩)) rfl rfl eo (λ_ h=>by cases h) (List.nil_sublist _) (λ_=>rfl) eo (λ_=>rfl)) (λ(ρ4:Nat->Nat)=>And.intro trivial (let bs5:AD:=[(r1,(cL c)),((ρ4 0),(AG 0 0 c)),((ρ4 1),[])];let rs6:Aw:=[(0,25,31),(2,Ad,31)];aI (Eq.refl r1) (aI (Eq.refl r1) (aI (Eq.refl r1) (aI (Eq.refl r1) (aI (CallMX.of (B:=B) (bs:=bs5) (rs:=rs6) (os:=[]) (ks:=[]) (bs0:=[]) (rs0:=[]) (os0:=[]) (V:= λρ=>.pointer (some ⟨(ρ 0),0,none⟩)) (bs1:= λρ=>[((ρ 0),(Ak c 0 false))]) (rs1:= λρ=>[]) [0,1,2,3] (λW hW hH=>(Nn (c 30) (c 6) (c 7) W).mono (λe' w' h=>h.elim λr h=>⟨λ_=>r,h.1,h.2.nb⟩)) rfl rfl eo (λ_ h=>by cases h) (List.nil_sublist _) (λ_=>rfl) eo (λ_=>rfl)) (λ(ρ7:Nat->Nat)=>And.intro (show Gz [(r1,(cL c)),((ρ4 0),(AG 0 0 c)),((ρ4 1),[])] [(r1,(cL c)),((ρ4 0),(AG 0 0 c)),((ρ4 1),[]),((ρ7 0),(Ak c 0 false))]from⟨Or.inr rfl,Or.inr rfl,Or.inl rfl,trivial⟩) (let e9:Nat×List Value:=((ρ7 0),(Ak c 0 false)); λ(r10:Nat)=>let e12:Nat×List Value:=(r10,(Af (v3 0 0 0) (v6 0 0 0 0 0 0) c (ρ4 0) (ρ7 0) (.slice none 0 0) 0 0));let bs11:AD:=[(r1,(cL c)),((ρ4 0),(AG 0 0 c)),((ρ4 1),[]),e9,e12];let rs13:Aw:=[(0,25,31),(2,Ad,31),(4,55,45)];aI trivial ((show AO B R bs11 [] rs13 [] (.tuple #[vP r10,vI 0])from by
     exactλW hS=>⟨r10,(ρ4 0),(ρ7 0),r1,(ρ4 1),rfl,((hS.weak (k:=0) rfl).sel [4,1,3,0,2] rfl eo).rows (by simp[rs13,List.idxOf?,List.findIdx?,List.findIdx?.go,Ao,An,S0])⟩))))))))))))))
theorem Cy(x p:Nat->Int)(w:World):Calls Tryz.prog 18 #[.agg #[.int .i64 (x 0),.int .i64 (x 1),.int .i64 (x 2),.int .i64 (p 0),.int .i64 (p 1),.int .i64 (p 2),.int .i64 (p 3),.int .i64 (p 4),.int .i64 (p 5)]] w (λe w'=>e=.returned (.tuple #[.agg #[.int .i64 (x 0),.int .i64 (x 1),.int .i64 (x 2)],.agg #[.int .i64 (p 0),.int .i64 (p 1),.int .i64 (p 2),.int .i64 (p 3),.int .i64 (p 4),.int .i64 (p 5)]])/\Below w.heap.size w w'):=by
 exact(let B:Base:=(⟨w,λ_=>False⟩:Base);let R:Ending->World->Prop:=(λe w'=>e=.returned (.tuple #[.agg #[.int .i64 (x 0),.int .i64 (x 1),.int .i64 (x 2)],.agg #[.int .i64 (p 0),.int .i64 (p 1),.int .i64 (p 2),.int .i64 (p 3),.int .i64 (p 4),.int .i64 (p 5)]])/\Below w.heap.size w w');AC (f:=18) (B:=B) (R:=R) (es:=[]) (c:=Tryz.f18.body.getD .skip) (tmps:=#[.agg #[vI (x 0),vI (x 1),vI (x 2),vI (p 0),vI (p 1),vI (p 2),vI (p 3),vI (p 4),vI (p 5)],vN,vN,vN,vN,vN,vN,vN])
  (.s [.c,.c] (.new (λr1=>.new (λr5=>.new (λr9=>.s [.c,.c,.d [1],.at 0 false,.v,.at 1 false,.own 0,.at 2 false,.v,.at 3 false,.own 0,.at 4 true,.put 1] (.s [.at 5 true,.put 2] (.s [.c] (.ret [1,2]))))))))
  el (Sx.refl w _) ExX.nil Tryz.func18 el el (Eq.mp el (λ(r1:Nat)=>let e3:Nat×List Value:=(r1,[vI (x 0),vI (x 1),vI (x 2),vI (p 0),vI (p 1),vI (p 2),vI (p 3),vI (p 4),vI (p 5)]); λ(r5:Nat)=> λ(r9:Nat)=>let rs12:Aw:=[(0,49,9),(1,23,3),(2,45,6)];aI (Eq.refl r1) (aI (Eq.refl r1) (aI (Dm r5) (aI (show(Gz [(r1,[vI (x 0),vI (x 1),vI (x 2),vI (p 0),vI (p 1),vI (p 2),vI (p 3),vI (p 4),vI (p 5)]),(r5,[]),(r9,[vI 0,vI 0,vI 0,vI 0,vI 0,vI 0])] [(r1,[vI (x 0),vI (x 1),vI (x 2),vI (p 0),vI (p 1),vI (p 2),vI (p 3),vI (p 4),vI (p 5)]),(r5,[vI (x 0),vI (x 1),vI (x 2)]),(r9,[vI 0,vI 0,vI 0,vI 0,vI 0,vI 0])])from⟨Or.inr rfl,Or.inl rfl,Or.inr rfl,trivial⟩) (let e14:Nat×List Value:=(r5,[vI (x 0),vI (x 1),vI (x 2)]);aI (FN r9) (aI trivial (let e16:Nat×List Value:=(r9,[vI (p 0),vI (p 1),vI (p 2),vI (p 3),vI (p 4),vI (p 5)]);let bs15:AD:=[e3,e14,e16];aI (show(r9=r9/\(r5=r5/\(True)))from⟨rfl,⟨rfl,trivial⟩⟩) ((show AO B R bs15 [] rs12 [] (.tuple #[.agg #[vI (x 0),vI (x 1),vI (x 2)],.agg #[vI (p 0),vI (p 1),vI (p 2),vI (p 3),vI (p 4),vI (p 5)]])from by
     exactλW hS=>⟨rfl,hS.bl⟩)))))))))))
end
section
open Go.RowKit
def ML{α:Type}(f:α->Option Bool):List α->Option Bool
 | []=>some true
 |a::l=>match f a,ML f l with
  |some x,some y=>some (x&&y)
  |_,_=>none
def Uq(P:Program):Nat->TypeId->Value->Value->Option Bool
 |0,_,_,_=>none
 |d+1,t,x,y=>match P.underlying t with
  |some .bool=>match x,y with
   | .bool a,.bool b=>some (a==b)
   |_,_=>none
  |some (.int _)=>match x,y with
   | .int k a,.int k' b=>if k=k' then some (a==b)else none
   |_,_=>none
  |some (.struct fs)=>match x,y,P.stoodInHeld t with
   | .agg xs,.agg ys,false=>ML (λf:Field=>if f.name≠ "_" then(match DJ P (part f.type xs f.offset),DJ P (part f.type ys f.offset)with
     |some a,some b=>Uq P d f.type a b
     |_,_=>none)else some true) fs.toList
   |_,_,_=>none
  |some (.array n e)=>match x,y,P.info? e with
   | .agg xs,.agg ys,some _=>ML (λi:Nat=>match DJ P (part e xs (i*P.cellsOf e)),DJ P (part e ys (i*P.cellsOf e))with
     |some a,some b=>Uq P d e a b
     |_,_=>none) (List.range n)
   |_,_,_=>none
  |_=>none
section
variable {P:Program}
theorem Kf{α:Type}{f:α->Option Bool}{a:α}{l:List α}{r:Bool}(h:ML f (a::l)=some r): ∃x y,f a=some x/\ML f l=some y/\r=(x&&y):=by
 simp only[ML]at h
 split at h
 ·rename_i x y hx hy
  exact⟨x,y,hx,hy,(Option.some.inj h).symm⟩
 cases h
theorem Pm: ∀(d:Nat)(t:TypeId)(x y:Value)(r:Bool)(W:World),Uq P d t x y=some r->(Op.equalIn d t x y).run P W=.ok r W:=by
 intro d
 induction d with
 |zero=>intro t x y r W h;simp[Uq]at h
 |succ d ih=>
  intro t x y r W h
  simp only[Uq]at h
  split at h
  ·rename_i hu
   split at h
   ·obtain rfl:=Option.some.inj h
    simp[Op.equalIn,run_underlying hu]
   cases h
  ·rename_i k0 hu
   split at h
   ·split at h
    ·rename_i hk
     subst hk
     obtain rfl:=Option.some.inj h
     simp[Op.equalIn,run_underlying hu]
    cases h
   cases h
  ·rename_i fs hu
   split at h
   ·rename_i xs ys hst
    have hfs:P.fieldsOf t=fs:=by unfold Program.fieldsOf;rw[hu]
    rw[run_equalIn_struct W d t xs ys (by rw[hfs];exact hu) hst,hfs]
    generalize fs.toList=l at h
    clear hfs hu
    induction l generalizing r with
    |nil=>simp only[ML,Option.some.injEq]at h;rw[<-h];rfl
    |cons f l ihl=>
     obtain⟨u,v,h1,h2,rfl⟩:=Kf h
     have hl:=ihl v h2
     simp only[Op.eqFields]
     split at h1
     ·rename_i hn
      rw[if_pos hn]
      split at h1
      ·rename_i a b ha hb
       rw[Sem.run_bind,BQ _ ha]
       simp only[Result.andThen_ok]
       rw[Sem.run_bind,BQ _ hb]
       simp only[Result.andThen_ok]
       rw[Sem.run_bind,ih _ _ _ _ _ h1]
       simp only[Result.andThen_ok]
       cases u
       ·rfl
       simp only[Bool.not_true,Bool.false_eq_true,if_false,Bool.true_and];exact hl
      cases h1
     rename_i hn
     rw[if_neg hn]
     obtain rfl:=Option.some.inj h1
     simpa using hl
   cases h
  ·rename_i n e hu
   split at h
   ·rename_i xs ys i hi
    rw[run_equalIn_array W d xs ys hu hi]
    generalize List.range n=l at h
    induction l generalizing r with
    |nil=>simp only[ML,Option.some.injEq]at h;rw[<-h];rfl
    |cons j l ihl=>
     obtain⟨u,v,h1,h2,rfl⟩:=Kf h
     have hl:=ihl v h2
     simp only[Op.eqItems]
     split at h1
     ·rename_i a b ha hb
      rw[Sem.run_bind,BQ _ ha]
      simp only[Result.andThen_ok]
      rw[Sem.run_bind,BQ _ hb]
      simp only[Result.andThen_ok]
      rw[Sem.run_bind,ih _ _ _ _ _ h1]
      simp only[Result.andThen_ok]
      cases u
      ·rfl
      simp only[Bool.not_true,Bool.false_eq_true,if_false,Bool.true_and];exact hl
     cases h1
   cases h
  cases h
theorem VI{t:TypeId}{x y:Value}{b:Bool}(h:Uq P 10000 t x y=some b):Jv P t x y b:= λW=>Pm _ _ _ _ _ W h
end
end
section
open Go.RowKit
def P4(a b c:Nat):Nat->Nat
 |0=>a
 |1=>b
 |_=>c
def T8(a b c d e:Nat):Nat->Nat
 |0=>a
 |1=>b
 |2=>c
 |3=>d
 |_=>e
def AB(c:Nat->Int)(T:Nat->Tk):Nat->Chs
 |0=>S0
 |k+1=>(AA c (AB c T k) (T k)).1
def Am(c:Nat->Int)(T:Nat->Tk)(k:Nat):Td:=(AA c (AB c T k) (T k)).2
def Ev(c:Nat->Int)(T:Nat->Tk):Nat->Td
 |0=>⟨0,false,false,false,false,false,0,0,0⟩
 |k+1=>Am c T k
theorem C6{c:Nat->Int}(T:Nat->Tk)(hc: ∀i,Ai (c i))(hk:Ct c=0): ∀k,ChI c (AB c T k) k:=by
 intro k
 induction k with
 |zero=>exact Ey c hk
 |succ k ih=>exact MP (T k) hc hk ih
theorem GW(a b:Td):Jv Tryz.prog 36 a.val b.val (decide (a=b)):=by
 have h:Uq Tryz.prog 10000 36 a.val b.val=some ((a.mo==b.mo)&&((a.va==b.va)&&((a.ac==b.ac)&&((a.re==b.re)&&((a.he==b.he)&&((a.gr==b.gr)&&((a.al==b.al)&&((a.sp==b.sp)&&((a.bi==b.bi)&&true))))))))):=by kernel_rfl
 have e:((a.mo==b.mo)&&((a.va==b.va)&&((a.ac==b.ac)&&((a.re==b.re)&&((a.he==b.he)&&((a.gr==b.gr)&&((a.al==b.al)&&((a.sp==b.sp)&&((a.bi==b.bi)&&true)))))))))=decide (a=b):=by
  rw[Bool.eq_iff_iff];cases a;cases b;simp
 rw[<-e];exact VI h
def KE:Nat->Int:= λi=>([1024,65536,256,16384,4194304,4096,274877906944,4398046511104,4398046511104,1099511627776,68719476736,256,256,256,1125899906842624,281474976710656,17592186044416,18014398509481984,562949953421312,8796093022208,9,34359738368,17179869184,-1073741824,536870912,2048,32768,32,64,1280,240]:List Int).getD i 0
theorem Qp(i:Nat):Ai (KE i):=by
 by_cases h:i<31
 ·have: ∀j,j<31->(-9223372036854775808<=KE j/\KE j<=9223372036854775807):=by decide
  exact this i h
 have:KE i=0:=by unfold KE;rw[List.getD_eq_getElem?_getD,List.getElem?_eq_none (by simp;omega)];rfl
 rw[this];decide
theorem TJ:Ct KE=0:=by decide+kernel
theorem KI(c:Nat->Int)(hd:c=KE)(w:World):Calls Tryz.prog 30 #[] w λe w'=>e=.returned (cA c)/\Below w.heap.size w w':=by
 subst hd;exact Lf w
def TF:Nat->Tk:= λ_=>⟨2048,true,405300,false⟩
theorem NW:Ev KE TF 16=⟨1,true,true,false,false,false,0,0,0⟩:=by kernel_rfl
abbrev We(c:Nat->Int)(X11:Lt):Chs×Td:=(AA c (AB c TF X11.k) (⟨2048,true,405300,false⟩:Tk))
abbrev Xq(c:Nat->Int)(X11:Lt):Array Value:=#[vI (((We c X11).2).mo),.bool (((We c X11).2).va),.bool (((We c X11).2).ac),.bool (((We c X11).2).re),.bool (((We c X11).2).he),.bool (((We c X11).2).gr),vI (((We c X11).2).al),vI (((We c X11).2).sp),vI (((We c X11).2).bi)]
abbrev Xv(c:Nat->Int)(X11:Lt):List Value:=[vI ((Ev c TF X11.k).mo),.bool ((Ev c TF X11.k).va),.bool ((Ev c TF X11.k).ac),.bool ((Ev c TF X11.k).re),.bool ((Ev c TF X11.k).he),.bool ((Ev c TF X11.k).gr),vI ((Ev c TF X11.k).al),vI ((Ev c TF X11.k).sp),vI ((Ev c TF X11.k).bi)]
set_option maxRecDepth 1000000 in
set_option maxHeartbeats 8000000 in
theorem LY(c:Nat->Int)(hc: ∀i,Ai (c i))(hk:Ct c=0)(hd:c=KE)(hf:Ev c TF 16=⟨1,true,true,false,false,false,0,0,0⟩)(w:World)(hA:GA w):Calls Tryz.prog 12 #[] w (λe w'=>e=.returned (.bool true)/\Below w.heap.size w w'):=by
 have hn:=NA.nf
 exact(let B:Base:=(⟨w,λ_=>False⟩:Base);let R:Ending->World->Prop:=(λe w'=>e=.returned (.bool true)/\Below w.heap.size w w');let I12:Lt->Prop:= λζ=>ζ.k<=16;let M13:Lt->Nat:= λζ=>16-ζ.k;let S14:(Nat->Nat)->(Nat)->Lt->SD:= λ(P1:Nat->Nat)(r7:Nat)=> λζ=>(⟨#[vF,vP (P1 0),vI 0,vP r7,.tuple #[vP (P1 0),vI 0],(cA c),.tuple #[vP (P1 0),vI 0],vP (P1 0),vI 0,vI 0,vF,vF,vP (P1 0),vF,vF,vI ((ζ.k:Nat):Int),(ζ.u 16),(ζ.u 17),(ζ.u 18),(ζ.u 19),(ζ.u 20),vN,vN,vN],[((P1 0),(Af ((AB c TF ζ.k).x) ((AB c TF ζ.k).p) c (P1 1) (P1 2) (fv (AB c TF ζ.k).zs (ζ.r 0) (ζ.r 2)) ((AB c TF ζ.k).m) ((AB c TF ζ.k).s))),((P1 1),(AG ((AB c TF ζ.k).la) ((AB c TF ζ.k).ru) c)),((P1 2),(Ak c ((AB c TF ζ.k).gc) ((AB c TF ζ.k).kn))),((ζ.r 0),(zL (AB c TF ζ.k).zs)),((P1 4),[]),(r7,[vI ((Ev c TF ζ.k).mo),.bool ((Ev c TF ζ.k).va),.bool ((Ev c TF ζ.k).ac),.bool ((Ev c TF ζ.k).re),.bool ((Ev c TF ζ.k).he),.bool ((Ev c TF ζ.k).gr),vI ((Ev c TF ζ.k).al),vI ((Ev c TF ζ.k).sp),vI ((Ev c TF ζ.k).bi)])],[],[(3,(Ao (AB c TF ζ.k).zs (ζ.r 1)),(An (AB c TF ζ.k).zs (ζ.r 2))),(4,Ad,31),(5,36,9)],[]⟩:SD);let Z32:(Lt)->(Nat->Nat)->(Nat->Nat)->Lt:= λ(X11:Lt)(P1:Nat->Nat)(P23:Nat->Nat)=>(⟨X11.k+1,λ_=>0,lu [(16,[vT,vP (P1 0),.agg #[vI 2048,vT,vI 405300,vF],.agg (Xq c X11),vI ((X11.k+1:Nat):Int)])],λ_=>(none,0),λi=>match i with|0=>(P23 0)|1=>(P23 1)|2=>(P23 2)|_=>0,λ_=>[]⟩:Lt);AC (f:=12) (B:=B) (R:=R) (es:=[]) (c:=Tryz.f12.body.getD .skip) (tmps:=#[vN,vN,vN,vN,vN,vN,vN,vN,vN,vN,vN,vN,vN,vN,vN,vN,vN,vN,vN,vN,vN,vN,vN,vN])
  (.s [.c,.c,.v,.c,.c,.c,.call ((cA c))] (.mut (λ(P1:Nat->Nat)=>(.tuple #[vP (P1 0),vI 0],[((P1 0),(Af S0.x S0.p c (P1 1) (P1 2) (fv S0.zs (P1 3) 31) S0.m S0.s)),((P1 1),(AG S0.la S0.ru c)),((P1 2),(Ak c S0.gc S0.kn)),((P1 3),(zL S0.zs)),((P1 4),[])],[(3,(Ao S0.zs Ad),(An S0.zs 31)),(4,Ad,31)])) (λP1=>.s [.v,.v,.v,.v,.v,.c,.c,.c,.c,.v,.v,.v,.v,.v,.v,.c,.c,.c,.c,.c] (.new (λr7=>.s [.c,.c,.c,.c,.v,.c,.c,.c] (.loop (σ:=Lt) I12 M13 (S14 P1 r7) (λX11=>.s [.c,.c,.v,.c,.c] (.split 16 (.s [.c,.c,.c,.c,.c,.v,.v] (.mut (λ(P23:Nat->Nat)=>(.agg (Xq c X11),[((P1 0),(Af (((We c X11).1).x) (((We c X11).1).p) c (P1 1) (P1 2) (fv ((We c X11).1).zs (P23 0) (P23 2)) (((We c X11).1).m) (((We c X11).1).s))),((P1 1),(AG (((We c X11).1).la) (((We c X11).1).ru) c)),((P1 2),(Ak c (((We c X11).1).gc) (((We c X11).1).kn))),((P23 0),(zL ((We c X11).1).zs)),((P1 4),[]),(r7,(Xv c X11))],[(4,Ad,31),(5,36,9),(3,(Ao ((We c X11).1).zs (P23 1)),(An ((We c X11).1).zs (P23 2)))])) (λP23=>.s [.put 5] (.s [.c,.c,.c,.v,.setv 20 (vI ((X11.k+1:Nat):Int)),.v,.c,.c] (.again 0))))) (.s [.c,.c,.c,.c,.own 5,.v,.eq (decide ((Ev c TF X11.k)=(⟨1,true,true,false,false,false,0,0,0⟩:Td))),.v,.c] (.ret []))))))))))
  el (Sx.refl w _) ExX.nil Tryz.func12 el el (Eq.mp el (aI (cv B [] [] [] [] ((λW hS=>KI c hd W))) (aI (CallMX.of (B:=B) (bs:=[]) (rs:=[]) (os:=[]) (ks:=[]) (bs0:=[]) (rs0:=[]) (os0:=[]) (V:= λρ=>.tuple #[.pointer (some ⟨(ρ 0),0,none⟩),vI 0]) (bs1:= λρ=>[((ρ 0),(Af S0.x S0.p c (ρ 1) (ρ 2) (fv S0.zs (ρ 3) 31) S0.m S0.s)),((ρ 1),(AG S0.la S0.ru c)),((ρ 2),(Ak c S0.gc S0.kn)),((ρ 3),(zL S0.zs)),((ρ 4),[])]) (rs1:= λρ=>[(3,(Ao S0.zs Ad),(An S0.zs 31)),(4,Ad,31)]) [0,1,2,3,4] (λW hW hH=>(D9 c hc hk W).mono (λe' w' h=>h.elim λa1 h=>h.elim λa2 h=>h.elim λa3 h=>h.elim λa4 h=>h.elim λa5 h=>⟨T8 a1 a2 a3 a4 a5,h.1,h.2.nb⟩)) rfl rfl eo (λ_ h=>by cases h) (List.nil_sublist _) (λ_=>rfl) eo (λ_=>rfl)) (λ(P1:Nat->Nat)=>And.intro trivial (λ(r7:Nat)=>And.intro (Ij I12 (S14 P1 r7) ((⟨0,λ_=>0,λ_=>vN,λ_=>(none,0),λi=>match i with|0=>(P1 3)|1=>Ad|2=>31|_=>0,λ_=>[]⟩:Lt)) (show(⟨0,λ_=>0,λ_=>vN,λ_=>(none,0),λi=>match i with|0=>(P1 3)|1=>Ad|2=>31|_=>0,λ_=>[]⟩:Lt).k<=16 from by(exact Nat.zero_le _)) [] [] [(3,(Ao S0.zs Ad),(An S0.zs 31)),(4,Ad,31),(5,36,9)] (by first|exactλ_ h=>h|(simp[S14];done)|(simp[S14];repeat' (first|rfl|apply And.intro))) (by first|exactλ_ h=>h|(simp[S14];done)|(simp[S14];repeat' (first|rfl|apply And.intro))) el) (λ(X11:Lt)(hI0:X11.k<=16)=>hv (hI0) (λKK=>let e16:Nat×List Value:=((P1 0),(Af ((AB c TF X11.k).x) ((AB c TF X11.k).p) c (P1 1) (P1 2) (fv (AB c TF X11.k).zs (X11.r 0) (X11.r 2)) ((AB c TF X11.k).m) ((AB c TF X11.k).s)));let e17:Nat×List Value:=((P1 1),(AG ((AB c TF X11.k).la) ((AB c TF X11.k).ru) c));let e18:Nat×List Value:=((P1 2),(Ak c ((AB c TF X11.k).gc) ((AB c TF X11.k).kn)));let e19:Nat×List Value:=((X11.r 0),(zL (AB c TF X11.k).zs));let e20:Nat×List Value:=(r7,(Xv c X11));let bs15:AD:=[e16,e17,e18,e19,((P1 4),[]),e20];let rs21:Aw:=[(3,(Ao (AB c TF X11.k).zs (X11.r 1)),(An (AB c TF X11.k).zs (X11.r 2))),(4,Ad,31),(5,36,9)];And.intro (λ(h22:(decide (((X11.k:Nat):Int)<16))=true)=>hv (show((X11.k:Nat):Int)<16 from(by simpa using h22)) (λh22p=>aI (CallMX.of (B:=B) (bs:=bs15) (rs:=rs21) (os:=[]) (ks:=[0,1,2,3]) (bs0:=[((P1 0),(Af ((AB c TF X11.k).x) ((AB c TF X11.k).p) c (P1 1) (P1 2) (fv (AB c TF X11.k).zs (X11.r 0) (X11.r 2)) ((AB c TF X11.k).m) ((AB c TF X11.k).s))),((P1 1),(AG ((AB c TF X11.k).la) ((AB c TF X11.k).ru) c)),((P1 2),(Ak c ((AB c TF X11.k).gc) ((AB c TF X11.k).kn))),((X11.r 0),(zL (AB c TF X11.k).zs))]) (rs0:=[(3,(Ao (AB c TF X11.k).zs (X11.r 1)),(An (AB c TF X11.k).zs (X11.r 2)))]) (os0:=[]) (V:= λρ=>.agg (Xq c X11)) (bs1:= λρ=>[((P1 0),(Af (((We c X11).1).x) (((We c X11).1).p) c (P1 1) (P1 2) (fv ((We c X11).1).zs (ρ 0) (ρ 2)) (((We c X11).1).m) (((We c X11).1).s))),((P1 1),(AG (((We c X11).1).la) (((We c X11).1).ru) c)),((P1 2),(Ak c (((We c X11).1).gc) (((We c X11).1).kn))),((ρ 0),(zL ((We c X11).1).zs))]) (rs1:= λρ=>[(3,(Ao ((We c X11).1).zs (ρ 1)),(An ((We c X11).1).zs (ρ 2)))]) [6,7,8,9,4,5] (λW hW hH=>(CJ (P1 0) (P1 1) (P1 2) (X11.r 0) c (AB c TF X11.k) X11.k (X11.r 1) (X11.r 2) (⟨2048,true,405300,false⟩:Tk) hc hk (C6 TF hc hk _) en W hH (hA.of hW hn) (hW.freshA hA hn (ks:=[0,1,2,3]) rfl (List.Sublist.refl _))).mono (λe' w' h=>h.elim λr' h=>h.elim λe1 h=>h.elim λn' h=>⟨P4 r' e1 n',h⟩)) rfl rfl eo (by intro r h;obtain rfl:=List.mem_singleton.1 h;exact⟨3,rfl,by simp[rs21]⟩) (List.nil_sublist _) (λ_=>rfl) eo (λ_=>rfl)) (λ(P23:Nat->Nat)=>And.intro trivial (aI (FV r7) (aI trivial (aI (vE (a:=(IntKind.i64.wrap (((X11.k:Nat):Int)+1))) (b:=((X11.k+1:Nat):Int)) (by rw[BE en];rfl)) ((FY (Ax 16 [false] [.code (Tryz.f12.body.getD .skip)]) I12 M13 (S14 P1 r7) X11 ((Z32 X11 P1 P23)) (show(Z32 X11 P1 P23).k<=16 from by(show X11.k+1<=16);(omega)) (show(16-(Z32 X11 P1 P23).k)<(16-X11.k)from by(show 16-(X11.k+1)<16-X11.k);(omega)) [] [] [(4,Ad,31),(5,36,9),(3,(Ao ((We c X11).1).zs (P23 1)),(An ((We c X11).1).zs (P23 2)))] (by first|exactλ_ h=>h|(simp[S14];done)|(simp[S14];repeat' (first|rfl|apply And.intro))) (by first|exactλ_ h=>h|(simp[S14];done)|(simp[S14];repeat' (first|rfl|apply And.intro))) el)))))))) (λ(h33:(decide (((X11.k:Nat):Int)<16))=false)=>hv (show¬(((X11.k:Nat):Int)<16)from(by simpa using h33)) (λh33p=>aI (Eq.refl r7) (aI (show Jv Tryz.prog 36 (.agg #[vI ((Ev c TF X11.k).mo),.bool ((Ev c TF X11.k).va),.bool ((Ev c TF X11.k).ac),.bool ((Ev c TF X11.k).re),.bool ((Ev c TF X11.k).he),.bool ((Ev c TF X11.k).gr),vI ((Ev c TF X11.k).al),vI ((Ev c TF X11.k).sp),vI ((Ev c TF X11.k).bi)]) (.agg #[vI 1,vT,vT,vF,vF,vF,vI 0,vI 0,vI 0]) (decide ((Ev c TF X11.k)=(⟨1,true,true,false,false,false,0,0,0⟩:Td)))from(GW (Ev c TF X11.k) (⟨1,true,true,false,false,false,0,0,0⟩:Td))) (aI trivial ((show AO B R bs15 [] rs21 [] (.bool (decide ((Ev c TF X11.k)=(⟨1,true,true,false,false,false,0,0,0⟩:Td))))from by
     exactλW hS=>⟨by rw[show Ev c TF X11.k=⟨1,true,true,false,false,false,0,0,0⟩from(by rw[show X11.k=16 by omega];exact hf)];rfl,hS.bl⟩))))))))))))))
theorem BO(w:World)(hA:GA w):Calls Tryz.prog 12 #[] w λe w'=>e=.returned (.bool true)/\Below w.heap.size w w':=
 LY KE Qp TJ rfl NW w hA
end
section
open Go.RowKit
abbrev Tk.cells(t:Tk):List Value:=[.int .i64 t.a,.bool t.has,.int .i64 t.pr,.bool t.sh]
abbrev Td.cells(t:Td):List Value:=[.int .i64 t.mo,.bool t.va,.bool t.ac,.bool t.re,.bool t.he,.bool t.gr,.int .i64 t.al,.int .i64 t.sp,.int .i64 t.bi]
section
variable {b o n k:Nat} {cs:List Value}
end
abbrev Wk(f:Nat->Int):Value:=.agg #[.int .i64 (f 0),.int .i64 (f 1),.int .i64 (f 2)]
abbrev Wj(f:Nat->Int):Value:=.agg #[.int .i64 (f 0),.int .i64 (f 1),.int .i64 (f 2),.int .i64 (f 3),.int .i64 (f 4),.int .i64 (f 5)]
abbrev XF(f:Nat->Int):List Value:=[.int .i64 (f 0),.int .i64 (f 1),.int .i64 (f 2)]
abbrev XD(f:Nat->Int):List Value:=[.int .i64 (f 0),.int .i64 (f 1),.int .i64 (f 2),.int .i64 (f 3),.int .i64 (f 4),.int .i64 (f 5)]
abbrev WX(c:Nat->Int)(f g r:Nat)(S:Chs)(n:Nat):List Value:=Af S.x S.p c f g (fv S.zs r n) S.m S.s
abbrev WU(c:Nat->Int)(S:Chs):List Value:=AG S.la S.ru c
abbrev WW(c:Nat->Int)(S:Chs):List Value:=Ak c S.gc S.kn
theorem XC{w:World}{bs:AD}{rs:Aw}{c:Nat->Int}(ch f g r:Nat)(S:Chs)(N e0 n:Nat)(t:Tk)(ks idx:List Nat)(hc: ∀i,Ai (c i))(hk:Ct c=0)(hA:GA w)(hI:ChI c S N)(hN:N<=100000)
 (hks:T6 ch f g r c S n=ks.filterMap λi=>bs[i]?)(hkl:ks.all (λk=>decide (k<bs.length))=true)(hnd:ks.Nodup)(hr: ∃k,ks[3]? =some k/\(k,Ao S.zs e0,An S.zs n)∈rs)(hi:idx.all (λi=>decide (i<bs.length+4)&& !ks.contains i)=true)(hin:idx.Nodup):
 CallMX Tryz.prog (⟨w,λ_=>False⟩:Base) bs [] rs [] 15 #[.pointer (some ⟨ch,0,none⟩),t.val] (λρ=>((AA c S t).2.val,EM idx (bs++T6 ch f g (ρ 0) c (AA c S t).1 (ρ 2)),N9 ks bs.length rs (Vf (AA c S t).1 (ρ 1) (ρ 2)) idx)):=
 CallMX.of (ks:=ks) (bs0:=T6 ch f g r c S n) (rs0:=Vf S e0 n) (os0:=[]) (V:= λ_=>(AA c S t).2.val) (bs1:= λρ=>T6 ch f g (ρ 0) c (AA c S t).1 (ρ 2)) (rs1:= λρ=>Vf (AA c S t).1 (ρ 1) (ρ 2)) idx
  (λW hW hH=>(CJ ch f g r c S N e0 n t hc hk hI hN W hH (hA.of hW NA.nf) (hW.freshA hA NA.nf (ks:=ks) hks (List.nil_sublist _))).mono λe' w' h=>h.elim λr' h=>h.elim λe1 h=>h.elim λn' h=>⟨P4 r' e1 n',h⟩)
  hks hkl hnd (λr h=>by obtain rfl:=List.mem_singleton.1 h;exact hr) (List.nil_sublist _) (λ_=>hi) hin (λ_=>rfl)
end
end Go.Proofs.YtikajapjkdloaaaGreatDoor
