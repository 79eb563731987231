/- Layer 20 (channel), plain: the clock's modes, what is told, how long ago a sample was taken, counts clipped in a row. -/
import Derived.Test.YtikajapjkdloaaaGreatDoor943
namespace Go.Proofs.YtikajapjkdloaaaGreatDoor
open Go.RowKit
set_option linter.unusedSimpArgs false
set_option linter.unusedVariables false
def Eg(m:Int):Prop:=m=0∨m=1∨m=2∨m=3
theorem RV{m s co out:Int}(hm:Eg m):Ar m s 3 co out=(3,0):=by rcases hm with rfl|rfl|rfl|rfl<;>rfl
theorem RW{m s co out:Int}(hm:Eg m):Ar m s 0 co out=(1,0):=by rcases hm with rfl|rfl|rfl|rfl<;>rfl
theorem Rl{m s co out:Int}(h:A6 m=true):Ar m s 1 co out=(1,0):=by unfold Ar;rw[h];rfl
theorem UN{m s co out:Int}(h:A6 m=true):Ar m s 2 co out=Dc m s co out:=by unfold Ar;rw[h];rfl
theorem Qz{m s co out:Int}(hm:Eg m)(h:A8 m=true):Ar m s 2 co out=(m,s):=by rcases hm with rfl|rfl|rfl|rfl<;>first|rfl|cases h
theorem Ha{m:Int}(hm:Eg m):A6 m= !A8 m:=by rcases hm with rfl|rfl|rfl|rfl<;>rfl
theorem Pz(m s co out:Int):Eg (Dc m s co out).1:=by
 unfold Dc Eg;repeat' split
 all_goals simp
structure StepE (c:Nat->Int) (S:Chs) (t:Tk):Prop where
 ev:(CR c S t).ev=0∨(CR c S t).ev=1∨(CR c S t).ev=2∨(CR c S t).ev=3
 ac:(CR c S t).ac=true<->(CR c S t).ev=0∨(CR c S t).ev=1
 re:(CR c S t).ac=true->(CR c S t).re=false
 one:(CR c S t).ev=1->A6 S.m=true
 lost:CL c S.ru t.a=true<->(CR c S t).ev=3
theorem Il{c:Nat->Int}{S:Chs}(hm:Eg S.m)(t:Tk):StepE c S t:=by
 have hv:=Ha hm
 unfold Eg at hm
 cases hlost:CL c S.ru t.a
 ·cases hsk:A8 S.m
  ·rw[hsk]at hv
   cases hok:t.ok
   ·constructor<;>(unfold CR;simp[hlost,hsk,hok])
   obtain⟨T,hT⟩: ∃T,DE c (BZ c S.x (BM c S.la t.a)) (Bm c S.p (AU c t.a)) S.gc S.kn t.sh t.pr=T:=⟨_,rfl⟩
   constructor<;>(unfold CR;cases T<;>simp[hlost,hsk,hok,hT,hv])
  cases hok:t.ok
  ·constructor<;>(unfold CR;simp[hlost,hsk,hok])
  obtain⟨T,hT⟩: ∃T,Fy S.zs=T:=⟨_,rfl⟩
  constructor<;>(unfold CR;cases T<;>simp[hlost,hsk,hok,hT])
 constructor<;>(unfold CR;simp[hlost])
theorem P3{c:Nat->Int}{S:Chs}(hm:Eg S.m)(t:Tk):Eg (AA c S t).1.m:=by
 have E:=Il (c:=c) hm t
 show Eg (Ar S.m S.s (CR c S t).ev (c 28) (c 29)).1
 rcases E.ev with q|q|q|q<;>rw[q]
 ·rw[RW hm];simp[Eg]
 ·rw[Rl (E.one q)];simp[Eg]
 ·cases hsk:A8 S.m
  ·rw[UN (by rw[Ha hm,hsk];rfl)];exact Pz _ _ _ _
  rw[Qz hm hsk];exact hm
 rw[RV hm];simp[Eg]
theorem Cu(c:Nat->Int)(T:Nat->Tk): ∀k,Eg (AB c T k).m
 |0=>Or.inl rfl
 |k+1=>P3 (Cu c T k) (T k)
def BA(c:Nat->Int)(T:Nat->Tk):Nat->Int
 |0=>0
 |k+1=>if AU c (T k).a=true then BA c T k+1 else 0
def Av(c:Nat->Int)(T:Nat->Tk):Nat->Int
 |0=> -1
 |k+1=>if(Am c T k).ac=true then(k:Int)else Av c T k
theorem Ow(c:Nat->Int)(T:Nat->Tk): ∀k,(AB c T k).ru=BA c T k
 |0=>rfl
 |k+1=>by
  show E4 c (AB c T k).ru (T k).a=BA c T (k+1)
  unfold E4;rw[Ow c T k];rfl
theorem Et(c:Nat->Int)(T:Nat->Tk): ∀k,0<=BA c T k/\BA c T k<=(k:Int)
 |0=>⟨Int.le_refl _,Int.le_refl _⟩
 |k+1=>by
  have:=Et c T k
  unfold BA;split<;>omega
theorem D4(c:Nat->Int)(T:Nat->Tk): ∀k,-1<=Av c T k/\Av c T k<(k:Int)
 |0=>⟨Int.le_refl _,show(-1:Int)<0 by decide⟩
 |k+1=>by
  have:=D4 c T k
  unfold Av;split<;>omega
theorem Fx{c:Nat->Int}{T:Nat->Tk}(hk:Ct c=0)(k:Nat)(h:BA c T (k+1)>c 27):(Am c T k).mo=3/\(Am c T k).va=false/\(Am c T k).ac=false:=by
 have E:=Il (c:=c) (Cu c T k) (T k)
 have hh:=K6 hk
 have hl:CL c (AB c T k).ru (T k).a=true:=by
  unfold CL
  unfold BA at h
  split at h
  ·rename_i q
   rw[q,Ow];simpa using h
  omega
 have e3:=E.lost.1 hl
 have hmo:(Am c T k).mo=(Ar (AB c T k).m (AB c T k).s (CR c (AB c T k) (T k)).ev (c 28) (c 29)).1:=rfl
 rw[e3,RV (Cu c T k)]at hmo
 refine⟨hmo,?_,?_⟩
 ·show A6 (Am c T k).mo=false
  rw[hmo];rfl
 show(CR c (AB c T k) (T k)).ac=false
 cases q:(CR c (AB c T k) (T k)).ac
 ·rfl
 have:=E.ac.1 q;rw[e3]at this;omega
theorem Je{c:Nat->Int}{T:Nat->Tk}(k:Nat)(h:(Am c T k).ac=true):(Am c T k).re=false/\(Am c T k).mo=1:=by
 have E:=Il (c:=c) (Cu c T k) (T k)
 refine⟨E.re h,?_⟩
 show(Ar (AB c T k).m (AB c T k).s (CR c (AB c T k) (T k)).ev (c 28) (c 29)).1=1
 rcases E.ac.1 h with q|q<;>rw[q]
 ·rw[RW (Cu c T k)]
 rw[Rl (E.one q)]
theorem I1{c:Nat->Int}{T:Nat->Tk}: ∀k,A6 (AB c T k).m=true->0<=Av c T k/\(AB c T k).s=(k:Int)-1-Av c T k
 |0,h=>by cases h
 |k+1,h=>by
  have E:=Il (c:=c) (Cu c T k) (T k)
  have hac:(Am c T k).ac=(CR c (AB c T k) (T k)).ac:=rfl
  have hm:(AB c T (k+1)).m=(Ar (AB c T k).m (AB c T k).s (CR c (AB c T k) (T k)).ev (c 28) (c 29)).1:=rfl
  have hs:(AB c T (k+1)).s=(Ar (AB c T k).m (AB c T k).s (CR c (AB c T k) (T k)).ev (c 28) (c 29)).2:=rfl
  rw[hm]at h
  rcases E.ev with q|q|q|q
  ·have a:(Am c T k).ac=true:=by rw[hac];exact E.ac.2 (Or.inl q)
   rw[hs,q,RW (Cu c T k)]
   unfold Av;rw[if_pos a];dsimp only;omega
  ·have a:(Am c T k).ac=true:=by rw[hac];exact E.ac.2 (Or.inr q)
   rw[hs,q,Rl (E.one q)]
   unfold Av;rw[if_pos a];dsimp only;omega
  ·have a: ¬(Am c T k).ac=true:=by rw[hac];intro z;have:=E.ac.1 z;omega
   rw[q]at h
   rw[hs,q]
   unfold Av;rw[if_neg a]
   cases hsk:A8 (AB c T k).m
   ·have hv:A6 (AB c T k).m=true:=by rw[Ha (Cu c T k),hsk];rfl
    have ih:=I1 k hv
    rw[UN hv]at h⊢
    unfold Dc at h⊢
    split
    ·rename_i z;rw[if_pos z]at h;cases h
    split<;>(dsimp only;omega)
   rw[Qz (Cu c T k) hsk,Ha (Cu c T k),hsk]at h;cases h
  rw[q,RV (Cu c T k)]at h;cases h
theorem Dt{c:Nat->Int}{T:Nat->Tk}(hc: ∀i,Ai (c i))(hk:Ct c=0)(k:Nat)(h:(Am c T k).va=true):0<=Av c T (k+1)/\(k:Int)-Av c T (k+1)<=c 29:=by
 have a:=I1 (c:=c) (T:=T) (k+1) h
 have b:=(C6 T hc hk (k+1)).hs
 omega
end Go.Proofs.YtikajapjkdloaaaGreatDoor
