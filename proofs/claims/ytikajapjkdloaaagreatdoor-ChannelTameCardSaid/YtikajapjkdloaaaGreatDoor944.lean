/- Layer 20 (channel): Step in one; what holds of a channel from step to step. -/
import Derived.Test.YtikajapjkdloaaaGreatDoor943
import Derived.Laws.StructEq
namespace Go.Proofs.YtikajapjkdloaaaGreatDoor
set_option linter.unusedVariables false
set_option linter.unusedSimpArgs false
set_option maxRecDepth 1000000
set_option maxHeartbeats 8000000
section
open Go.RowKit
structure ChI (c:Nat->Int) (S:Chs) (N:Nat):Prop where
 hx: ∀i,Ai (S.x i)
 hp: ∀i,Ai (S.p i)
 hla:Ai S.la
 hru:0<=S.ru/\S.ru<=(N:Int)
 hzs: ∀y∈S.zs,Ag y=true
 hl:S.zs.length<=15
 hgc:0<=S.gc/\S.gc<=430515
 hgd:S.kn=true->Ag S.gc=true
 hs:0<=S.s/\S.s<=c 29
theorem Vg{m s ev co out:Int}(h:0<=s/\s<=out):0<=(Ar m s ev co out).2/\(Ar m s ev co out).2<=out:=by
 unfold Ar Dc
 repeat' split
 all_goals simp only[decide_eq_true_eq]at*
 all_goals omega
theorem Vt{t:Tk}(h:t.ok=true):Ag t.pr=true:=by
 unfold Tk.ok at h;simp only[Bool.and_eq_true]at h;exact h.2
theorem UR{gc:Int}{kn:Bool}{zs:List Int}{z:Int}(hgc:0<=gc/\gc<=430515)(hz:Ag z=true)(hzs: ∀y∈zs,Ag y=true):0<=NC gc kn zs z/\NC gc kn zs z<=430515:=by
 unfold NC
 split
 ·rename_i h
  have:=FM (EU (Ef hzs hz h.1))
  unfold V9;omega
 exact hgc
theorem Rp{gc:Int}{kn:Bool}{zs:List Int}{z:Int}(hgd:kn=true->Ag gc=true)(hz:Ag z=true)(hzs: ∀y∈zs,Ag y=true)(h:NK kn zs=true):Ag (NC gc kn zs z)=true:=by
 unfold NC
 split
 ·rename_i q
  exact EU (Ef hzs hz q.1)
 rename_i q
 cases hk:kn
 ·exfalso
  apply q
  unfold NK at h
  rw[hk,Bool.false_or]at h
  exact⟨of_decide_eq_true h,hk⟩
 exact hgd hk
structure MidI (c:Nat->Int) (M:Mid):Prop where
 hx: ∀i,Ai (M.x i)
 hp: ∀i,Ai (M.p i)
 hzs: ∀y∈M.zs,Ag y=true
 hl:M.zs.length<=15∨M.ev=0
 hgc:0<=M.gc/\M.gc<=430515
 hgd:M.kn=true->Ag M.gc=true
theorem TV{c p:Nat->Int}{zs:List Int}(hc: ∀i,Ai (c i))(hp: ∀i,Ai (p i)): ∀i,Ai (Ng c p zs i):=by
 unfold Ng
 split
 ·exact OA (p:=Ai) (hc 8) (by decide) (by decide) (hc 9) (by decide) (hc 10)
 exact hp
theorem TI{c:Nat->Int}{S:Chs}{N:Nat}(t:Tk)(hc: ∀i,Ai (c i))(h:ChI c S N):MidI c (CR c S t):=by
 unfold CR
 split
 ·exact⟨h.hx,h.hp,h.hzs,Or.inl h.hl,h.hgc,h.hgd⟩
 split
 ·split
  ·rename_i q
   have hz:=Vt q
   refine⟨Dw h.hx hz h.hzs,TV hc h.hp,λy hy=> ?_,?_,UR h.hgc hz h.hzs,Rp h.hgd hz h.hzs⟩
   ·rcases List.mem_append.1 hy with hy|hy
    ·exact h.hzs y hy
    rw[List.mem_singleton.1 hy];exact hz
   by_cases h15:S.zs.length=15
   ·exact Or.inr (if_pos (decide_eq_true h15))
   have:=h.hl
   refine Or.inl ?_
   show(S.zs++[t.pr]).length<=15
   rw[List.length_append,List.length_singleton];omega
  exact⟨h.hx,h.hp,h.hzs,Or.inl h.hl,h.hgc,h.hgd⟩
 split
 ·exact⟨C7 hc (B1 hc h.hx),TK (Ld h.hp),h.hzs,Or.inl h.hl,h.hgc,h.hgd⟩
 exact⟨B1 hc h.hx,Ld h.hp,h.hzs,Or.inl h.hl,h.hgc,h.hgd⟩
theorem MP{c:Nat->Int}{S:Chs}{N:Nat}(t:Tk)(hc: ∀i,Ai (c i))(hk:Ct c=0)(h:ChI c S N):ChI c (AA c S t).1 (N+1):=by
 have M:=TI t hc h
 have hru:=h.hru
 refine⟨M.hx,M.hp,LB hk h.hla,?_,?_,?_,M.hgc,M.hgd,Vg h.hs⟩
 ·show 0<=E4 c S.ru t.a/\E4 c S.ru t.a<=_
  unfold E4;split<;>omega
 ·show∀y∈(if Oo S (CR c S t) _=true then[]else(CR c S t).zs),_
  split
  ·intro y hy;cases hy
  exact M.hzs
 show(if Oo S (CR c S t) _=true then([]:List Int)else(CR c S t).zs).length<=15
 split
 ·exact Nat.zero_le _
 rename_i q
 rcases M.hl with l|l
 ·exact l
 exfalso;apply q
 unfold Oo;rw[l];rfl
abbrev T6(ch f g r:Nat)(c:Nat->Int)(S:Chs)(n:Nat):AD:=[(ch,Af S.x S.p c f g (fv S.zs r n) S.m S.s),(f,AG S.la S.ru c),(g,Ak c S.gc S.kn),(r,zL S.zs)]
abbrev Vf(S:Chs)(e n:Nat):Aw:=[(3,Ao S.zs e,An S.zs n)]
theorem CJ(ch f g r:Nat)(c:Nat->Int)(S:Chs)(N e0 n:Nat)(t:Tk)(hc: ∀i,Ai (c i))(hk:Ct c=0)(hI:ChI c S N)(hN:N<=100000)(w:World)
 (hS0:Sx (AH w (T6 ch f g r c S n) []) w (T6 ch f g r c S n) [] (Vf S e0 n) [])(hA:GA w)(hn:NA (AH w (T6 ch f g r c S n) []).X):
 Calls Tryz.prog 15 #[.pointer (some ⟨ch,0,none⟩),t.val] w λe' w'=> ∃r' e1 n':Nat,e'=.returned (AA c S t).2.val/\
  Sx (AH w (T6 ch f g r c S n) []) w' (T6 ch f g r' c (AA c S t).1 n') [] (Vf (AA c S t).1 e1 n') []:=by
 obtain⟨x,p,la,ru,zs,gc,kn,m,s⟩:=S
 obtain⟨a,has,pr,sh⟩:=t
 obtain⟨hx,hp,hla,hru,hzs,hl,hgc,hgd,hs⟩:=hI
 have ho:=Qx hk
 dsimp only at*
 have hru':0<=ru/\ru<=1000000:=by omega
 have hs':0<=s/\s<=1000000:=by omega
 unfold AA
 cases hlost:CL c ru a
 ·cases hsk:A8 m
  ·cases hok:(has&&Ag pr)
   ·have hM:CR c ⟨x,p,la,ru,zs,gc,kn,m,s⟩ ⟨a,has,pr,sh⟩=⟨BZ c x (BM c la a),Bm c p (AU c a),zs,gc,kn,2,false,false,false⟩:=by
     unfold CR Tk.ok;dsimp only;rw[hlost,hsk,hok];rfl
    have hR: ∀m',Oo ⟨x,p,la,ru,zs,gc,kn,m,s⟩ ⟨BZ c x (BM c la a),Bm c p (AU c a),zs,gc,kn,2,false,false,false⟩ m'=A8 m':=by
     intro m';unfold Oo;dsimp only;rw[hsk];simp
    rw[hM];unfold QD;dsimp only;rw[hR]
    exact S9 ch f g r x p c la ru zs gc kn m s e0 n a has pr sh hc hk hx hp hla hru' hzs hl hgc hgd hs' hlost hok hsk w hS0 hA hn
   have hM:CR c ⟨x,p,la,ru,zs,gc,kn,m,s⟩ ⟨a,has,pr,sh⟩=⟨Do c (BZ c x (BM c la a)) (Bm c p (AU c a)) gc kn sh pr,L0 c (BZ c x (BM c la a)) (Bm c p (AU c a)) gc kn sh pr,zs,gc,kn,if DE c (BZ c x (BM c la a)) (Bm c p (AU c a)) gc kn sh pr=true then 1 else 2,DE c (BZ c x (BM c la a)) (Bm c p (AU c a)) gc kn sh pr, !DE c (BZ c x (BM c la a)) (Bm c p (AU c a)) gc kn sh pr,H3 c gc kn pr⟩:=by
    unfold CR Tk.ok;dsimp only;rw[hlost,hsk,hok];rfl
   rw[hM]
   generalize hT:DE c (BZ c x (BM c la a)) (Bm c p (AU c a)) gc kn sh pr=T
   have hR: ∀m',Oo ⟨x,p,la,ru,zs,gc,kn,m,s⟩ ⟨Do c (BZ c x (BM c la a)) (Bm c p (AU c a)) gc kn sh pr,L0 c (BZ c x (BM c la a)) (Bm c p (AU c a)) gc kn sh pr,zs,gc,kn,if T=true then 1 else 2,T, !T,H3 c gc kn pr⟩ m'=A8 m':=by
    intro m';unfold Oo;dsimp only;rw[hsk];cases T<;>simp
   unfold QD;dsimp only;rw[hR,<-hT]
   exact O8 ch f g r x p c la ru zs gc kn m s e0 n a has pr sh hc hk hx hp hla hru' hzs hl hgc hgd hs' hlost hok hsk w hS0 hA hn
  cases hok:(has&&Ag pr)
  ·have hM:CR c ⟨x,p,la,ru,zs,gc,kn,m,s⟩ ⟨a,has,pr,sh⟩=⟨x,p,zs,gc,kn,2,false,false,false⟩:=by
    unfold CR Tk.ok;dsimp only;rw[hlost,hsk,hok];rfl
   have hR: ∀m',Oo ⟨x,p,la,ru,zs,gc,kn,m,s⟩ ⟨x,p,zs,gc,kn,2,false,false,false⟩ m'=false:=by
    intro m';unfold Oo;dsimp only;rw[hsk];simp
   rw[hM];unfold QD;dsimp only;rw[hR]
   exact PD ch f g r x p c la ru zs gc kn m s e0 n a has pr sh hc hk hx hp hla hru' hzs hl hgc hgd hs' hlost hok hsk w hS0 hA hn
  have hM:CR c ⟨x,p,la,ru,zs,gc,kn,m,s⟩ ⟨a,has,pr,sh⟩=⟨Dx x zs pr,Ng c p zs,zs++[pr],NC gc kn zs pr,NK kn zs,if Fy zs=true then 0 else 2,Fy zs,false,false⟩:=by
   unfold CR Tk.ok;dsimp only;rw[hlost,hsk,hok];rfl
  rw[hM]
  have hR: ∀m',Oo ⟨x,p,la,ru,zs,gc,kn,m,s⟩ ⟨Dx x zs pr,Ng c p zs,zs++[pr],NC gc kn zs pr,NK kn zs,if Fy zs=true then 0 else 2,Fy zs,false,false⟩ m'=Fy zs:=by
   intro m';unfold Oo;dsimp only;rw[hsk];cases Fy zs<;>simp
  unfold QD;dsimp only;rw[hR]
  exact PF ch f g r x p c la ru zs gc kn m s e0 n a has pr sh hc hk hx hp hla hru' hzs hl hgc hgd hs' hlost hok hsk w hS0 hA hn
 have hM:CR c ⟨x,p,la,ru,zs,gc,kn,m,s⟩ ⟨a,has,pr,sh⟩=⟨x,p,zs,gc,kn,3,false,false,false⟩:=by
  unfold CR;dsimp only;rw[hlost];rfl
 have hR: ∀m',Oo ⟨x,p,la,ru,zs,gc,kn,m,s⟩ ⟨x,p,zs,gc,kn,3,false,false,false⟩ m'=true:=by
  intro m';unfold Oo;dsimp only;simp
 rw[hM];unfold QD;dsimp only;rw[hR]
 exact QJ ch f g r x p c la ru zs gc kn m s e0 n a has pr sh hc hk hx hp hla hru' hzs hl hgc hgd hs' hlost w hS0 hA hn
end
section
open Go.RowKit
theorem Sx.nb{w W:World}{bs:AD}{gs:BN}{rs:Aw}{os:DV}(h:Sx (⟨w,λ_=>False⟩:Base) W bs gs rs os):Sx (AH w [] []) W bs gs rs os:=
 ⟨h.bx.mono λ_ _ q=>q.elim,λx hx=>let⟨a,q⟩:=h.blk x hx;⟨a.elim Or.inl (λq=>q.elim),q⟩,h.nd,h.bg,h.rw,λy hy=>let⟨a,q⟩:=h.ob y hy;⟨a.elim Or.inl (λq=>q.elim),q⟩,h.on⟩
def S0:Chs:=⟨v3 0 0 0,v6 0 0 0 0 0 0,0,0,[],0,false,0,0⟩
theorem Ey(c:Nat->Int)(hk:Ct c=0):ChI c S0 0:=
 ⟨Hj (p:=Ai) (by decide) (by decide) (by decide),OA (p:=Ai) (by decide) (by decide) (by decide) (by decide) (by decide) (by decide),by decide,by decide,(λ_ h=>nomatch h),by decide,by decide,(λh=>nomatch h),by have:=Qx hk;show(0:Int)<=0/\(0:Int)<=c 29;omega⟩
abbrev Ad:TypeId:=25
theorem QC(c:Nat->Int)(hc: ∀i,Ai (c i))(hk:Ct c=0)(w:World):Calls Tryz.prog 31 #[(cA c)] w (λe w'=> ∃r d:Nat,e=.returned (.tuple #[.pointer (some ⟨r,0,none⟩),.int .i64 0])/\Sx (⟨w,λ_=>False⟩:Base) w' [(r,AG 0 0 c),(d,[])] [] [(1,Ad,31)] []):=by
 exact(let B:Base:=(⟨w,λ_=>False⟩:Base);let R:Ending->World->Prop:=(λe w'=> ∃r d:Nat,e=.returned (.tuple #[.pointer (some ⟨r,0,none⟩),.int .i64 0])/\Sx (⟨w,λ_=>False⟩:Base) w' [(r,AG 0 0 c),(d,[])] [] [(1,Ad,31)] []);AC (f:=31) (B:=B) (R:=R) (es:=[]) (c:=Tryz.f31.body.getD .skip) (tmps:=#[(cA c),vN,vN,vN,vN,vN,vN,vN,vN,vN])
  (.s [.c,.c] (.new (λr1=>.s [.v,.v,.c,.c,.c,.c,.own 0,.call (vI 0),.v,.c,.c,.c,.c,.c,.own 0,.v] (.new (λr4=>.s [.v,.v,.c] (.ret []))))))
  (by kernel_rfl) (Sx.refl w _) ExX.nil Tryz.func31 (by kernel_rfl) (by kernel_rfl) (Eq.mp (by kernel_rfl) (λ(r1:Nat)=>let bs2:AD:=[(r1,(cL c))];let rs3:Aw:=[(0,25,31)];aI (Eq.refl r1) (aI (cv B bs2 [] rs3 [] ((λW hS=>Dz c hc hk W))) (aI (Eq.refl r1) (λ(r4:Nat)=>let bs5:AD:=[(r1,(cL c)),(r4,(AG 0 0 c))];let rs6:Aw:=[(0,25,31),(1,143,33)];aI trivial ((show AO B R bs5 [] rs6 [] (.tuple #[vP r4,vI 0])from by
      exactλW hS=>⟨_,_,rfl,((hS.weak (k:=0) rfl).sel [1,0] rfl (by decide)).rows (by simp[rs6,List.idxOf?,List.findIdx?,List.findIdx?.go])⟩))))))))
theorem D9(c:Nat->Int)(hc: ∀i,Ai (c i))(hk:Ct c=0)(w:World):Calls Tryz.prog 13 #[(cA c)] w (λe w'=> ∃ch f g r d:Nat,e=.returned (.tuple #[.pointer (some ⟨ch,0,none⟩),.int .i64 0])/\Sx (⟨w,λ_=>False⟩:Base) w' (T6 ch f g r c S0 31++[(d,[])]) [] (Vf S0 Ad 31++[(4,Ad,31)]) []):=by
 exact(let B:Base:=(⟨w,λ_=>False⟩:Base);let R:Ending->World->Prop:=(λe w'=> ∃ch f g r d:Nat,e=.returned (.tuple #[.pointer (some ⟨ch,0,none⟩),.int .i64 0])/\Sx (⟨w,λ_=>False⟩:Base) w' (T6 ch f g r c S0 31++[(d,[])]) [] (Vf S0 Ad 31++[(4,Ad,31)]) []);AC (f:=13) (B:=B) (R:=R) (es:=[]) (c:=Tryz.f13.body.getD .skip) (tmps:=#[(cA c),vN,vN,vN,vN,vN,vN,vN,vN,vN,vN,vN,vN,vN,vN,vN,vN,vN,vN,vN,vN,vN,vN,vN,vN])
  (.s [.c,.c] (.new (λr1=>.s [.v,.v,.c,.c,.c,.own 0] (.mut (λ(ρ4:Nat->Nat)=>(.tuple #[vP (ρ4 0),vI 0],[(r1,(cL c)),((ρ4 0),(AG 0 0 c)),((ρ4 1),[])],[(0,25,31),(2,Ad,31)])) (λρ4=>.s [.v,.v,.v,.v,.v,.c,.c,.c,.c,.v,.v,.c,.c,.c,.c,.d [],.at 0 false,.own 0,.at 1 false,.v,.at 2 false,.v,.at 3 false,.own 0,.at 4 false,.v,.at 5 false,.own 0,.at 6 false,.v,.at 7 false,.own 0,.at 8 true] (.mut (λ(ρ7:Nat->Nat)=>(vP (ρ7 0),[(r1,(cL c)),((ρ4 0),(AG 0 0 c)),((ρ4 1),[]),((ρ7 0),(Ak c 0 false))],[(0,25,31),(2,Ad,31)])) (λρ7=>.s [.at 9 false,.v,.at 10 true] (.new (λr10=>.s [.at 11 false,.v,.at 12 false,.v,.c] (.ret []))))))))))
  (by kernel_rfl) (Sx.refl w _) ExX.nil Tryz.func13 (by kernel_rfl) (by kernel_rfl) (Eq.mp (by kernel_rfl) (λ(r1:Nat)=>let bs2:AD:=[(r1,(cL c))];let rs3:Aw:=[(0,25,31)];aI (Eq.refl r1) (aI (CallMX.of (B:=B) (bs:=bs2) (rs:=rs3) (os:=[]) (ks:=[]) (bs0:=[]) (rs0:=[]) (os0:=[]) (V:= λρ=>.tuple #[.pointer (some ⟨(ρ 0),0,none⟩),vI 0]) (bs1:= λρ=>[((ρ 0),(AG 0 0 c)),((ρ 1),[])]) (rs1:= λρ=>[(1,Ad,31)]) [0,1,2] (λW hW hH=>(QC c hc hk W).mono (λe' w' h=>h.elim λr h=>h.elim λd h=>⟨rn r d,h.1,h.2.nb⟩)) rfl rfl (by decide) (λ_ h=>by cases h) (List.nil_sublist _) (λ_=>rfl) (by decide) (λ_=>rfl)) (λ(ρ4:Nat->Nat)=>And.intro trivial (let bs5:AD:=[(r1,(cL c)),((ρ4 0),(AG 0 0 c)),((ρ4 1),[])];let rs6:Aw:=[(0,25,31),(2,Ad,31)];aI (Eq.refl r1) (aI (Eq.refl r1) (aI (Eq.refl r1) (aI (Eq.refl r1) (aI (CallMX.of (B:=B) (bs:=bs5) (rs:=rs6) (os:=[]) (ks:=[]) (bs0:=[]) (rs0:=[]) (os0:=[]) (V:= λρ=>.pointer (some ⟨(ρ 0),0,none⟩)) (bs1:= λρ=>[((ρ 0),(Ak c 0 false))]) (rs1:= λρ=>[]) [0,1,2,3] (λW hW hH=>(Nn (c 30) (c 6) (c 7) W).mono (λe' w' h=>h.elim λr h=>⟨λ_=>r,h.1,h.2.nb⟩)) rfl rfl (by decide) (λ_ h=>by cases h) (List.nil_sublist _) (λ_=>rfl) (by decide) (λ_=>rfl)) (λ(ρ7:Nat->Nat)=>And.intro (show Gz [(r1,(cL c)),((ρ4 0),(AG 0 0 c)),((ρ4 1),[])] [(r1,(cL c)),((ρ4 0),(AG 0 0 c)),((ρ4 1),[]),((ρ7 0),(Ak c 0 false))]from⟨Or.inr rfl,Or.inr rfl,Or.inl rfl,trivial⟩) (let e9:Nat×List Value:=((ρ7 0),(Ak c 0 false)); λ(r10:Nat)=>let e12:Nat×List Value:=(r10,(Af (v3 0 0 0) (v6 0 0 0 0 0 0) c (ρ4 0) (ρ7 0) (.slice none 0 0) 0 0));let bs11:AD:=[(r1,(cL c)),((ρ4 0),(AG 0 0 c)),((ρ4 1),[]),e9,e12];let rs13:Aw:=[(0,25,31),(2,Ad,31),(4,55,45)];aI trivial ((show AO B R bs11 [] rs13 [] (.tuple #[vP r10,vI 0])from by
      exactλW hS=>⟨r10,(ρ4 0),(ρ7 0),r1,(ρ4 1),rfl,((hS.weak (k:=0) rfl).sel [4,1,3,0,2] rfl (by decide)).rows (by simp[rs13,List.idxOf?,List.findIdx?,List.findIdx?.go,Ao,An,S0])⟩))))))))))))))
theorem G8(c:Nat->Int)(hc: ∀i,Ai (c i))(hk: ¬Ct c=0)(w:World):Calls Tryz.prog 13 #[(cA c)] w (λe w'=>e=.returned (.tuple #[.pointer none,.int .i64 1])/\Below w.heap.size w w'):=by
 exact(let B:Base:=(⟨w,λ_=>False⟩:Base);let R:Ending->World->Prop:=(λe w'=>e=.returned (.tuple #[.pointer none,.int .i64 1])/\Below w.heap.size w w');AC (f:=13) (B:=B) (R:=R) (es:=[]) (c:=Tryz.f13.body.getD .skip) (tmps:=#[(cA c),vN,vN,vN,vN,vN,vN,vN,vN,vN,vN,vN,vN,vN,vN,vN,vN,vN,vN,vN,vN,vN,vN,vN,vN])
  (.s [.c,.c] (.new (λr1=>.s [.v,.v,.c,.c,.c,.own 0,.call (.tuple #[.pointer none,vI 1]),.v,.v,.v,.v,.v,.c,.c,.c,.c,.v,.v,.c,.c,.c,.c,.v,.v,.v,.c] (.ret []))))
  (by kernel_rfl) (Sx.refl w _) ExX.nil Tryz.func13 (by kernel_rfl) (by kernel_rfl) (Eq.mp (by kernel_rfl) (λ(r1:Nat)=>let bs2:AD:=[(r1,(cL c))];let rs3:Aw:=[(0,25,31)];aI (Eq.refl r1) (aI (cv B bs2 [] rs3 [] ((λW hS=>LD c hc hk W))) (aI trivial ((show AO B R bs2 [] rs3 [] (.tuple #[.pointer none,vI 1])from by
      exactλW hS=>⟨rfl,hS.bl⟩)))))))
theorem Cy(x p:Nat->Int)(w:World):Calls Tryz.prog 18 #[.agg #[.int .i64 (x 0),.int .i64 (x 1),.int .i64 (x 2),.int .i64 (p 0),.int .i64 (p 1),.int .i64 (p 2),.int .i64 (p 3),.int .i64 (p 4),.int .i64 (p 5)]] w (λe w'=>e=.returned (.tuple #[.agg #[.int .i64 (x 0),.int .i64 (x 1),.int .i64 (x 2)],.agg #[.int .i64 (p 0),.int .i64 (p 1),.int .i64 (p 2),.int .i64 (p 3),.int .i64 (p 4),.int .i64 (p 5)]])/\Below w.heap.size w w'):=by
 exact(let B:Base:=(⟨w,λ_=>False⟩:Base);let R:Ending->World->Prop:=(λe w'=>e=.returned (.tuple #[.agg #[.int .i64 (x 0),.int .i64 (x 1),.int .i64 (x 2)],.agg #[.int .i64 (p 0),.int .i64 (p 1),.int .i64 (p 2),.int .i64 (p 3),.int .i64 (p 4),.int .i64 (p 5)]])/\Below w.heap.size w w');AC (f:=18) (B:=B) (R:=R) (es:=[]) (c:=Tryz.f18.body.getD .skip) (tmps:=#[.agg #[vI (x 0),vI (x 1),vI (x 2),vI (p 0),vI (p 1),vI (p 2),vI (p 3),vI (p 4),vI (p 5)],vN,vN,vN,vN,vN,vN,vN])
  (.s [.c,.c] (.new (λr1=>.new (λr5=>.new (λr9=>.s [.c,.c,.d [1],.at 0 false,.v,.at 1 false,.own 0,.at 2 false,.v,.at 3 false,.own 0,.at 4 true,.put 1] (.s [.at 5 true,.put 2] (.s [.c] (.ret [1,2]))))))))
  (by kernel_rfl) (Sx.refl w _) ExX.nil Tryz.func18 (by kernel_rfl) (by kernel_rfl) (Eq.mp (by kernel_rfl) (λ(r1:Nat)=>let e3:Nat×List Value:=(r1,[vI (x 0),vI (x 1),vI (x 2),vI (p 0),vI (p 1),vI (p 2),vI (p 3),vI (p 4),vI (p 5)]); λ(r5:Nat)=> λ(r9:Nat)=>let rs12:Aw:=[(0,49,9),(1,23,3),(2,45,6)];aI (Eq.refl r1) (aI (Eq.refl r1) (aI (Dm r5) (aI (show(Gz [(r1,[vI (x 0),vI (x 1),vI (x 2),vI (p 0),vI (p 1),vI (p 2),vI (p 3),vI (p 4),vI (p 5)]),(r5,[]),(r9,[vI 0,vI 0,vI 0,vI 0,vI 0,vI 0])] [(r1,[vI (x 0),vI (x 1),vI (x 2),vI (p 0),vI (p 1),vI (p 2),vI (p 3),vI (p 4),vI (p 5)]),(r5,[vI (x 0),vI (x 1),vI (x 2)]),(r9,[vI 0,vI 0,vI 0,vI 0,vI 0,vI 0])])from⟨Or.inr rfl,Or.inl rfl,Or.inr rfl,trivial⟩) (let e14:Nat×List Value:=(r5,[vI (x 0),vI (x 1),vI (x 2)]);aI (FN r9) (aI trivial (let e16:Nat×List Value:=(r9,[vI (p 0),vI (p 1),vI (p 2),vI (p 3),vI (p 4),vI (p 5)]);let bs15:AD:=[e3,e14,e16];aI (show(r9=r9/\(r5=r5/\(True)))from⟨rfl,⟨rfl,trivial⟩⟩) ((show AO B R bs15 [] rs12 [] (.tuple #[.agg #[vI (x 0),vI (x 1),vI (x 2)],.agg #[vI (p 0),vI (p 1),vI (p 2),vI (p 3),vI (p 4),vI (p 5)]])from by
      exactλW hS=>⟨rfl,hS.bl⟩)))))))))))
theorem am(ch:Nat)(x p c:Nat->Int)(f g:Nat)(v0:Value)(m s:Int)(w:World)(hb:ch<w.heap.size)(hx: ∀(i:Nat)(v:Value),((Af x p c f g v0 m s):List Value)[i]? =some v->w.cell? ⟨ch,i,none⟩=some v):Calls Tryz.prog 21 #[.pointer (some ⟨ch,0,none⟩)] w (λe w'=>e=.returned (.tuple #[.int .i64 m,.int .i64 s])/\Below w.heap.size w w'):=by
 exact(let B:Base:=(⟨w,λ_=>False⟩:Base);let R:Ending->World->Prop:=(λe w'=>e=.returned (.tuple #[.int .i64 m,.int .i64 s])/\Below w.heap.size w w');AC (f:=21) (B:=B) (R:=R) (es:=[(ch,(Af x p c f g v0 m s))]) (c:=Tryz.f21.body.getD .skip) (tmps:=#[vP ch,vN,vN,vN,vN,vN,vN,vN,vN,vN,vN,vN,vN,vN])
  (.s [.c,.c,.v,.v,.c,.c,.d [],.at 0 false,.v,.at 1 false,.v,.at 2 false,.v,.at 3 false,.v,.at 4 false,.ext 0,.at 5 false,.v,.at 6 false,.v,.at 7 false,.v,.at 8 false,.v,.at 9 false,.ext 0,.at 10 false,.v,.at 11 false,.v,.c] (.ret []))
  (by kernel_rfl) (Sx.refl w _) (by exact ExX.cons ⟨hb,id,hx⟩ (ExX.nil)) Tryz.func21 (by kernel_rfl) (by kernel_rfl) (Eq.mp (by kernel_rfl) (aI (Eq.refl ch) (aI (Eq.refl ch) (aI trivial ((show AO B R [] [] [] [] (.tuple #[vI m,vI s])from by
      exactλW hS=>⟨rfl,hS.bl⟩)))))))
end
section
open Go.RowKit
def ML{α:Type}(f:α->Option Bool):List α->Option Bool
 | []=>some true
 |a::l=>match f a,ML f l with
  |some x,some y=>some (x&&y)
  |_,_=>none
def Uq(P:Program):Nat->TypeId->Value->Value->Option Bool
 |0,_,_,_=>none
 |d+1,t,x,y=>match P.underlying t with
  |some .bool=>match x,y with
   | .bool a,.bool b=>some (a==b)
   |_,_=>none
  |some (.int _)=>match x,y with
   | .int k a,.int k' b=>if k=k' then some (a==b)else none
   |_,_=>none
  |some (.struct fs)=>match x,y,P.stoodInHeld t with
   | .agg xs,.agg ys,false=>ML (λf:Field=>if f.name≠ "_" then(match DJ P (part f.type xs f.offset),DJ P (part f.type ys f.offset)with
     |some a,some b=>Uq P d f.type a b
     |_,_=>none)else some true) fs.toList
   |_,_,_=>none
  |some (.array n e)=>match x,y,P.info? e with
   | .agg xs,.agg ys,some _=>ML (λi:Nat=>match DJ P (part e xs (i*P.cellsOf e)),DJ P (part e ys (i*P.cellsOf e))with
     |some a,some b=>Uq P d e a b
     |_,_=>none) (List.range n)
   |_,_,_=>none
  |_=>none
section
variable {P:Program}
theorem Kf{α:Type}{f:α->Option Bool}{a:α}{l:List α}{r:Bool}(h:ML f (a::l)=some r): ∃x y,f a=some x/\ML f l=some y/\r=(x&&y):=by
 simp only[ML]at h
 split at h
 ·rename_i x y hx hy
  exact⟨x,y,hx,hy,(Option.some.inj h).symm⟩
 cases h
theorem Pm: ∀(d:Nat)(t:TypeId)(x y:Value)(r:Bool)(W:World),Uq P d t x y=some r->(Op.equalIn d t x y).run P W=.ok r W:=by
 intro d
 induction d with
 |zero=>intro t x y r W h;simp[Uq]at h
 |succ d ih=>
  intro t x y r W h
  simp only[Uq]at h
  split at h
  ·rename_i hu
   split at h
   ·obtain rfl:=Option.some.inj h
    simp[Op.equalIn,run_underlying hu]
   cases h
  ·rename_i k0 hu
   split at h
   ·split at h
    ·rename_i hk
     subst hk
     obtain rfl:=Option.some.inj h
     simp[Op.equalIn,run_underlying hu]
    cases h
   cases h
  ·rename_i fs hu
   split at h
   ·rename_i xs ys hst
    have hfs:P.fieldsOf t=fs:=by unfold Program.fieldsOf;rw[hu]
    rw[run_equalIn_struct W d t xs ys (by rw[hfs];exact hu) hst,hfs]
    generalize fs.toList=l at h
    clear hfs hu
    induction l generalizing r with
    |nil=>simp only[ML,Option.some.injEq]at h;rw[<-h];rfl
    |cons f l ihl=>
     obtain⟨u,v,h1,h2,rfl⟩:=Kf h
     have hl:=ihl v h2
     simp only[Op.eqFields]
     split at h1
     ·rename_i hn
      rw[if_pos hn]
      split at h1
      ·rename_i a b ha hb
       rw[Sem.run_bind,BQ _ ha]
       simp only[Result.andThen_ok]
       rw[Sem.run_bind,BQ _ hb]
       simp only[Result.andThen_ok]
       rw[Sem.run_bind,ih _ _ _ _ _ h1]
       simp only[Result.andThen_ok]
       cases u
       ·rfl
       simp only[Bool.not_true,Bool.false_eq_true,if_false,Bool.true_and];exact hl
      cases h1
     rename_i hn
     rw[if_neg hn]
     obtain rfl:=Option.some.inj h1
     simpa using hl
   cases h
  ·rename_i n e hu
   split at h
   ·rename_i xs ys i hi
    rw[run_equalIn_array W d xs ys hu hi]
    generalize List.range n=l at h
    induction l generalizing r with
    |nil=>simp only[ML,Option.some.injEq]at h;rw[<-h];rfl
    |cons j l ihl=>
     obtain⟨u,v,h1,h2,rfl⟩:=Kf h
     have hl:=ihl v h2
     simp only[Op.eqItems]
     split at h1
     ·rename_i a b ha hb
      rw[Sem.run_bind,BQ _ ha]
      simp only[Result.andThen_ok]
      rw[Sem.run_bind,BQ _ hb]
      simp only[Result.andThen_ok]
      rw[Sem.run_bind,ih _ _ _ _ _ h1]
      simp only[Result.andThen_ok]
      cases u
      ·rfl
      simp only[Bool.not_true,Bool.false_eq_true,if_false,Bool.true_and];exact hl
     cases h1
   cases h
  cases h
theorem VI{t:TypeId}{x y:Value}{b:Bool}(h:Uq P 10000 t x y=some b):Jv P t x y b:= λW=>Pm _ _ _ _ _ W h
end
end
end Go.Proofs.YtikajapjkdloaaaGreatDoor
