/- What the law's arguments give the walks: a configuration, a row of ticks; what the listed variables hold. -/
import Derived.Test.YtikajapjkdloaaaGreatDoor945
import Derived.Deep.Slices
namespace Go.Proofs.YtikajapjkdloaaaGreatDoor
set_option linter.unusedVariables false
set_option linter.unusedSimpArgs false
section
open Go.RowKit Go.WideShapes Go.ChangeShapes Go.WideElems
set_option maxRecDepth 100000
def O1(v:Value):Prop:= ∃x:Int,Ai x/\v=.int .i64 x
section
variable {H:Type} {enc:TypeId×Value->H} {P:Program} {w:World} {base:Nat} {spare:Nat->Bool} {held:Bool} {m:Nat} {l:List Value} {y:DataW H×List MemPlace}
theorem Cb{t:TypeId}(ht:P.underlying t=some (.int .i64))(h:DataW.trod enc P w base spare held m t l=some y): ∀v∈l,O1 v:=by
 obtain⟨x,rfl,_,wx⟩:=DataW.trod_int ht h
 intro v hv
 rw[List.mem_singleton]at hv
 subst hv
 exact⟨x,U0 wx,rfl⟩
theorem Ds{n:Nat}{t e:TypeId}(ht:P.underlying t=some (.array n e))(he:P.underlying e=some (.int .i64))(hc:P.cellsOf e=1)(hct:P.cellsOf t=n)
 (h:DataW.trod enc P w base spare held m t l=some y): ∀v∈l,O1 v:=by
 obtain⟨ys,k,_,_,hl,hyl,hel⟩:=DataW.trod_array ht h
 intro v hv
 obtain⟨i,hi,rfl⟩:=List.mem_iff_getElem.1 hv
 have q:=hel i (by omega)
 rw[hc,Nat.mul_one]at q
 have e1:(l.drop i).take 1=[l[i]]:=by rw[List.drop_eq_getElem_cons hi];rfl
 rw[e1,List.getElem?_eq_getElem (by omega)]at q
 exact Cb he q _ (List.mem_singleton.2 rfl)
theorem Pd{l:List Value}{o n j:Nat}(hj:j<l.length)(h1:o<=j)(h2:j<o+n):l[j]∈(l.drop o).take n:=by
 refine List.mem_iff_getElem.2 ⟨j-o,by simp;omega,?_⟩
 simp only[List.getElem_take,List.getElem_drop]
 congr 1
 omega
end
section
variable {H:Type} {enc:TypeId×Value->H} {w:World} {base:Nat} {spare:Nat->Bool} {held:Bool} {r:Reach} {b0:Nat} {v:Value} {d:DataW H} {p:List MemPlace}
set_option maxRecDepth 10000 in
theorem Hx(hv:Value.okWide Tryz.prog w r b0 25 v)(h:DataW.Trod enc Tryz.prog w base spare held 25 v d p): ∃c:Nat->Int,(∀i,Ai (c i))/\v=.agg #[.int .i64 (c 0),.int .i64 (c 1),.int .i64 (c 2),.int .i64 (c 3),.int .i64 (c 4),.int .i64 (c 5),.int .i64 (c 6),.int .i64 (c 7),.int .i64 (c 8),.int .i64 (c 9),.int .i64 (c 10),.int .i64 (c 11),.int .i64 (c 12),.int .i64 (c 13),.int .i64 (c 14),.int .i64 (c 15),.int .i64 (c 16),.int .i64 (c 17),.int .i64 (c 18),.int .i64 (c 19),.int .i64 (c 20),.int .i64 (c 21),.int .i64 (c 22),.int .i64 (c 23),.int .i64 (c 24),.int .i64 (c 25),.int .i64 (c 26),.int .i64 (c 27),.int .i64 (c 28),.int .i64 (c 29),.int .i64 (c 30)]:=by
 simp only[Value.okWide,Tryz.underlying25]at hv
 obtain⟨cs,rfl,hsz,_⟩:=hv
 obtain⟨fuel,hf⟩:=h
 obtain⟨xs,n,_,_,hl,hxl,hel⟩:=DataW.trod_struct Tryz.underlying25 hf
 rw[show Tryz.prog.cellsOf 25=31 by kernel_rfl]at hl
 obtain⟨l⟩:=cs
 simp only[Value.cells]at hf hl hel
 have hx17:xs.length=17:=hxl
 have piece: ∀(o k:Nat),(o,k)∈ [(0,3),(3,3),(6,1),(7,1),(8,3),(11,3),(14,3),(17,3),(20,1),(21,3),(24,1),(25,1),(26,1),(27,1),(28,1),(29,1),(30,1)]-> ∀u∈(l.drop o).take k,O1 u:=by
  intro o k hm
  simp only[List.mem_cons,Prod.mk.injEq,List.not_mem_nil,or_false]at hm
  rcases hm with⟨rfl,rfl⟩|⟨rfl,rfl⟩|⟨rfl,rfl⟩|⟨rfl,rfl⟩|⟨rfl,rfl⟩|⟨rfl,rfl⟩|⟨rfl,rfl⟩|⟨rfl,rfl⟩|⟨rfl,rfl⟩|⟨rfl,rfl⟩|⟨rfl,rfl⟩|⟨rfl,rfl⟩|⟨rfl,rfl⟩|⟨rfl,rfl⟩|⟨rfl,rfl⟩|⟨rfl,rfl⟩|⟨rfl,rfl⟩
  ·have q:=hel 0
   simp only[List.getElem?_toArray,List.getElem?_cons_zero,List.getElem?_cons_succ,Option.some.injEq,forall_eq']at q
   rw[List.getElem?_eq_getElem (by omega)]at q
   simp only[show Tryz.prog.cellsOf 23=3 by kernel_rfl]at q
   exact Ds Tryz.underlying23 Tryz.underlying2 (by kernel_rfl) (by kernel_rfl) q
  ·have q:=hel 1
   simp only[List.getElem?_toArray,List.getElem?_cons_zero,List.getElem?_cons_succ,Option.some.injEq,forall_eq']at q
   rw[List.getElem?_eq_getElem (by omega)]at q
   simp only[show Tryz.prog.cellsOf 23=3 by kernel_rfl]at q
   exact Ds Tryz.underlying23 Tryz.underlying2 (by kernel_rfl) (by kernel_rfl) q
  ·have q:=hel 2
   simp only[List.getElem?_toArray,List.getElem?_cons_zero,List.getElem?_cons_succ,Option.some.injEq,forall_eq']at q
   rw[List.getElem?_eq_getElem (by omega)]at q
   simp only[show Tryz.prog.cellsOf 2=1 by kernel_rfl]at q
   exact Cb Tryz.underlying2 q
  ·have q:=hel 3
   simp only[List.getElem?_toArray,List.getElem?_cons_zero,List.getElem?_cons_succ,Option.some.injEq,forall_eq']at q
   rw[List.getElem?_eq_getElem (by omega)]at q
   simp only[show Tryz.prog.cellsOf 2=1 by kernel_rfl]at q
   exact Cb Tryz.underlying2 q
  ·have q:=hel 4
   simp only[List.getElem?_toArray,List.getElem?_cons_zero,List.getElem?_cons_succ,Option.some.injEq,forall_eq']at q
   rw[List.getElem?_eq_getElem (by omega)]at q
   simp only[show Tryz.prog.cellsOf 23=3 by kernel_rfl]at q
   exact Ds Tryz.underlying23 Tryz.underlying2 (by kernel_rfl) (by kernel_rfl) q
  ·have q:=hel 5
   simp only[List.getElem?_toArray,List.getElem?_cons_zero,List.getElem?_cons_succ,Option.some.injEq,forall_eq']at q
   rw[List.getElem?_eq_getElem (by omega)]at q
   simp only[show Tryz.prog.cellsOf 23=3 by kernel_rfl]at q
   exact Ds Tryz.underlying23 Tryz.underlying2 (by kernel_rfl) (by kernel_rfl) q
  ·have q:=hel 6
   simp only[List.getElem?_toArray,List.getElem?_cons_zero,List.getElem?_cons_succ,Option.some.injEq,forall_eq']at q
   rw[List.getElem?_eq_getElem (by omega)]at q
   simp only[show Tryz.prog.cellsOf 23=3 by kernel_rfl]at q
   exact Ds Tryz.underlying23 Tryz.underlying2 (by kernel_rfl) (by kernel_rfl) q
  ·have q:=hel 7
   simp only[List.getElem?_toArray,List.getElem?_cons_zero,List.getElem?_cons_succ,Option.some.injEq,forall_eq']at q
   rw[List.getElem?_eq_getElem (by omega)]at q
   simp only[show Tryz.prog.cellsOf 23=3 by kernel_rfl]at q
   exact Ds Tryz.underlying23 Tryz.underlying2 (by kernel_rfl) (by kernel_rfl) q
  ·have q:=hel 8
   simp only[List.getElem?_toArray,List.getElem?_cons_zero,List.getElem?_cons_succ,Option.some.injEq,forall_eq']at q
   rw[List.getElem?_eq_getElem (by omega)]at q
   simp only[show Tryz.prog.cellsOf 2=1 by kernel_rfl]at q
   exact Cb Tryz.underlying2 q
  ·have q:=hel 9
   simp only[List.getElem?_toArray,List.getElem?_cons_zero,List.getElem?_cons_succ,Option.some.injEq,forall_eq']at q
   rw[List.getElem?_eq_getElem (by omega)]at q
   simp only[show Tryz.prog.cellsOf 23=3 by kernel_rfl]at q
   exact Ds Tryz.underlying23 Tryz.underlying2 (by kernel_rfl) (by kernel_rfl) q
  ·have q:=hel 10
   simp only[List.getElem?_toArray,List.getElem?_cons_zero,List.getElem?_cons_succ,Option.some.injEq,forall_eq']at q
   rw[List.getElem?_eq_getElem (by omega)]at q
   simp only[show Tryz.prog.cellsOf 2=1 by kernel_rfl]at q
   exact Cb Tryz.underlying2 q
  ·have q:=hel 11
   simp only[List.getElem?_toArray,List.getElem?_cons_zero,List.getElem?_cons_succ,Option.some.injEq,forall_eq']at q
   rw[List.getElem?_eq_getElem (by omega)]at q
   simp only[show Tryz.prog.cellsOf 2=1 by kernel_rfl]at q
   exact Cb Tryz.underlying2 q
  ·have q:=hel 12
   simp only[List.getElem?_toArray,List.getElem?_cons_zero,List.getElem?_cons_succ,Option.some.injEq,forall_eq']at q
   rw[List.getElem?_eq_getElem (by omega)]at q
   simp only[show Tryz.prog.cellsOf 2=1 by kernel_rfl]at q
   exact Cb Tryz.underlying2 q
  ·have q:=hel 13
   simp only[List.getElem?_toArray,List.getElem?_cons_zero,List.getElem?_cons_succ,Option.some.injEq,forall_eq']at q
   rw[List.getElem?_eq_getElem (by omega)]at q
   simp only[show Tryz.prog.cellsOf 2=1 by kernel_rfl]at q
   exact Cb Tryz.underlying2 q
  ·have q:=hel 14
   simp only[List.getElem?_toArray,List.getElem?_cons_zero,List.getElem?_cons_succ,Option.some.injEq,forall_eq']at q
   rw[List.getElem?_eq_getElem (by omega)]at q
   simp only[show Tryz.prog.cellsOf 2=1 by kernel_rfl]at q
   exact Cb Tryz.underlying2 q
  ·have q:=hel 15
   simp only[List.getElem?_toArray,List.getElem?_cons_zero,List.getElem?_cons_succ,Option.some.injEq,forall_eq']at q
   rw[List.getElem?_eq_getElem (by omega)]at q
   simp only[show Tryz.prog.cellsOf 2=1 by kernel_rfl]at q
   exact Cb Tryz.underlying2 q
  have q:=hel 16
  simp only[List.getElem?_toArray,List.getElem?_cons_zero,List.getElem?_cons_succ,Option.some.injEq,forall_eq']at q
  rw[List.getElem?_eq_getElem (by omega)]at q
  simp only[show Tryz.prog.cellsOf 2=1 by kernel_rfl]at q
  exact Cb Tryz.underlying2 q
 have key: ∀u∈l,O1 u:=by
  intro u hu
  obtain⟨j,hj,rfl⟩:=List.mem_iff_getElem.1 hu
  have hc: ∀j:Fin 31,∃x∈ [(0,3),(3,3),(6,1),(7,1),(8,3),(11,3),(14,3),(17,3),(20,1),(21,3),(24,1),(25,1),(26,1),(27,1),(28,1),(29,1),(30,1)],x.1<=j.1/\j.1<x.1+x.2:=by decide
  obtain⟨⟨o,k⟩,hm,h1,h2⟩:=hc ⟨j,by omega⟩
  exact piece o k hm _ (Pd hj h1 h2)
 obtain⟨zs,hz,rfl⟩:=Sf key
 have hzl:zs.length=31:=by simpa using hl
 refine⟨λi=>zs.getD i 0,λi=> ?_,?_⟩
 ·show Ai (zs.getD i 0)
  rw[List.getD_eq_getElem?_getD]
  cases hi:zs[i]? with
  |none=>show Ai 0;decide
  |some x=>exact hz x (List.mem_of_getElem? hi)
 have e:zs=(List.range 31).map (λi=>zs.getD i 0):=by
  apply List.ext_getElem (by simp[hzl])
  intro i h1 h2
  simp[List.getD_eq_getElem?_getD,List.getElem?_eq_getElem h1]
 rw[show(Value.agg (List.map (Value.int IntKind.i64) zs).toArray)=Value.agg (List.map (Value.int IntKind.i64) ((List.range 31).map (λi=>zs.getD i 0))).toArray from by rw[<-e]]
 rfl
end
def Us:Value->Int| .int _ x=>x|_=>0
def Ug:Value->Bool| .bool b=>b|_=>false
section
variable {H:Type} {enc:TypeId×Value->H} {w:World} {base:Nat} {spare:Nat->Bool} {held:Bool} {r:Reach} {b0:Nat} {v:Value} {d:DataW H} {p:List MemPlace}
theorem L9{m:Nat}{u:Value}{t:TypeId}{x:DataW H×List MemPlace}(ht:Tryz.prog.underlying t=some (.int .i64))(h:DataW.trod enc Tryz.prog w base spare held m t [u]=some x):u=.int .i64 (Us u):=by
 obtain⟨x,ex,_,_⟩:=DataW.trod_int ht h
 obtain rfl:u=.int .i64 x:=by simpa using ex
 rfl
theorem Kk{m:Nat}{u:Value}{x:DataW H×List MemPlace}(h:DataW.trod enc Tryz.prog w base spare held m 4 [u]=some x):u=.bool (Ug u):=by
 obtain⟨b,h1,h2⟩:=DataW.trod_bool Tryz.underlying4 h
 obtain rfl:u=.bool b:=by simpa using h1
 rfl
theorem Rt{m:Nat}{l:List Value}{x:DataW H×List MemPlace}(h:DataW.trod enc Tryz.prog w base spare held m 39 l=some x):
 ∃v0 v1 v2 v3,l=[v0,v1,v2,v3]/\v0=.int .i64 (Us v0)/\v1=.bool (Ug v1)/\v2=.int .i64 (Us v2)/\v3=.bool (Ug v3):=by
 obtain⟨xs,n,_,_,hl,hxl,hel⟩:=DataW.trod_struct Tryz.underlying39 h
 rw[show Tryz.prog.cellsOf 39=4 by kernel_rfl]at hl
 have hx9:xs.length=4:=hxl
 match l,hl with
 | [v0,v1,v2,v3],_=>
   have q0:=hel 0
   simp only[List.getElem?_toArray,List.getElem?_cons_zero,List.getElem?_cons_succ,Option.some.injEq,forall_eq']at q0
   rw[List.getElem?_eq_getElem (by omega)]at q0
   simp only[show Tryz.prog.cellsOf 2=1 by kernel_rfl]at q0
   have q1:=hel 1
   simp only[List.getElem?_toArray,List.getElem?_cons_zero,List.getElem?_cons_succ,Option.some.injEq,forall_eq']at q1
   rw[List.getElem?_eq_getElem (by omega)]at q1
   simp only[show Tryz.prog.cellsOf 4=1 by kernel_rfl]at q1
   have q2:=hel 2
   simp only[List.getElem?_toArray,List.getElem?_cons_zero,List.getElem?_cons_succ,Option.some.injEq,forall_eq']at q2
   rw[List.getElem?_eq_getElem (by omega)]at q2
   simp only[show Tryz.prog.cellsOf 2=1 by kernel_rfl]at q2
   have q3:=hel 3
   simp only[List.getElem?_toArray,List.getElem?_cons_zero,List.getElem?_cons_succ,Option.some.injEq,forall_eq']at q3
   rw[List.getElem?_eq_getElem (by omega)]at q3
   simp only[show Tryz.prog.cellsOf 4=1 by kernel_rfl]at q3
   refine⟨v0,v1,v2,v3,rfl,?_,?_,?_,?_⟩
   ·exact L9 Tryz.underlying2 q0
   ·exact Kk q1
   ·exact L9 Tryz.underlying2 q2
   exact Kk q3
theorem FJ(hv:Value.okWide Tryz.prog w r b0 62 v)(h:DataW.Trod enc Tryz.prog w base spare held 62 v d p):
 ∃(A:Option Addr)(n cap:Nat),True/\(n=0∨ ∃(T:Nat->Tk)(b o:Nat)(cs:List Value),A=some ⟨b,o,none⟩/\Ep T cs o n/\b<w.heap.size/\ ∀i v,cs[i]? =some v->w.cell? ⟨b,i,none⟩=some v)/\True/\v=.slice A n cap:=by
 obtain⟨A,n,cap,rfl⟩:=okWide_slice Tryz.underlying62 hv
 obtain⟨fuel,hf⟩:=h
 refine⟨A,n,cap,trivial,?_,trivial,rfl⟩
 rcases Go.Deep.open_slice Tryz.underlying62 hf with⟨hcs,_⟩|⟨a,len,cap',m,k,D,Pl,hcs,_,hle,hcap,hm,_,hel⟩
 all_goals simp only[Value.cells,List.cons.injEq,Value.slice.injEq,and_true]at hcs
 ·exact Or.inl hcs.2.1
 obtain⟨rfl,rfl,rfl⟩:=hcs
 rcases Nat.eq_zero_or_pos n with h0|h0
 ·exact Or.inl h0
 right
 rw[show Tryz.prog.cellsOf 39=4 by kernel_rfl]at hel
 have hnm:n<=m:=by rw[hm];split<;>omega
 obtain⟨b,o,spot⟩:=a
 have each: ∀i,i<n-> ∃v0 v1 v2 v3,(∀j,j<4->w.cell? ((Addr.add ⟨b,o,spot⟩ (i*4)).add j)=[v0,v1,v2,v3][j]?)/\v0=.int .i64 (Us v0)/\v1=.bool (Ug v1)/\v2=.int .i64 (Us v2)/\v3=.bool (Ug v3):=by
  intro i hi
  obtain⟨cs',hcells,htr⟩:=hel i (by omega)
  obtain⟨_,_,hc⟩:=World.cells?_some hcells
  obtain⟨v0,v1,v2,v3,rfl,hv⟩:=Rt htr
  exact⟨v0,v1,v2,v3,hc,hv⟩
 obtain⟨u0,u1,u2,u3,hu,_⟩:=each 0 h0
 have hcell:=hu 0 (by decide)
 simp only[Nat.zero_mul,Addr.add_zero',List.getElem?_cons_zero]at hcell
 have hspot:spot=none:=World.cell?_spot hcell
 subst hspot
 simp only[Addr.add_lit]at each
 obtain⟨cur,e,z,hb⟩: ∃cur e z,w.heap[b]? =some (.cells cur e z):=by
  unfold World.cell? at hcell
  dsimp only at hcell
  split at hcell
  ·rename_i c e z hq;exact⟨_,_,_,hq⟩
  cases hcell
 let V:Nat->Nat->Value:= λi j=>(w.cell? ⟨b,o+i*4+j,none⟩).getD undef
 refine⟨λi=>⟨Us (V i 0),Ug (V i 1),Us (V i 2),Ug (V i 3)⟩,b,o,cur.toList,rfl,?_,World.block_lt_of_cell? w ⟨b,o,none⟩ hcell,λi v hv=> ?_⟩
 ·intro i hi j hj
  obtain⟨v0,v1,v2,v3,hc,e0,e1,e2,e3⟩:=each i hi
  have hV: ∀j,j<4->V i j=[v0,v1,v2,v3].getD j undef:= λj hj=>by
   show(w.cell? _).getD undef=_
   rw[hc j hj];rfl
  have key:cur.toList[o+i*4+j]? =[v0,v1,v2,v3][j]? :=by
   rw[<-hc j hj,Ce hb];simp
  rw[key]
  have f0:V i 0=v0:=hV 0 (by decide)
  have f1:V i 1=v1:=hV 1 (by decide)
  have f2:V i 2=v2:=hV 2 (by decide)
  have f3:V i 3=v3:=hV 3 (by decide)
  simp only[Tk.cells,f0,f1,f2,f3,<-e0,<-e1,<-e2,<-e3]
 rw[Ce hb];simpa using hv
end
theorem K_{w:World}{L:List (String×DataW Unit)}(hL:laidMet Tryz.prog L w)(hm:("aneroid/atmos.table",Rows.laid_aneroid_atmos_table)∈L):GT w:=by
 obtain⟨g',t',cs,fuel,p,h1,h2,h3,h4⟩:=Ii hL hm
 have hg:Tryz.prog.globalNamed "aneroid/atmos.table" =some 0:=by kernel_rfl
 obtain rfl:=Option.some.inj (hg.symm.trans h1)
 obtain rfl:=Option.some.inj ((show(Tryz.prog.globals[0]?).map (·.type)=some 192 by kernel_rfl).symm.trans h2)
 have e:(Rows.laid_aneroid_atmos_table:DataW Unit)=Lib.tabData .i64 tabL:=rfl
 rw[e]at h4
 have k:=Lib.cells_of_tab Tryz.underlying192 Tryz.underlying2 (by kernel_rfl) (by kernel_rfl) h4
 have hcell:=World.var?_cell hg h3
 have hget: ∀i,cs[i]? =cs.toList[i]? := λi=>(Array.getElem?_toList ..).symm
 refine⟨?_,λi v hv=> ?_⟩
 ·exact World.block_lt_of_cell? w ⟨_,0,none⟩ ((hcell 0).trans (by rw[hget,k];rfl))
 rw[hcell i,hget,k];exact hv
theorem RT{w:World}(hg:GN w)(hl:GL w)(hgp:GP w)(hgt:GT w)(hgr:GR w):GA w:=⟨hg,hgp,hl,hgr,hgt⟩
end
section
open Go.RowKit
def Eg(m:Int):Prop:=m=0∨m=1∨m=2∨m=3
theorem RV{m s co out:Int}(hm:Eg m):Ar m s 3 co out=(3,0):=by rcases hm with rfl|rfl|rfl|rfl<;>rfl
theorem RW{m s co out:Int}(hm:Eg m):Ar m s 0 co out=(1,0):=by rcases hm with rfl|rfl|rfl|rfl<;>rfl
theorem Rl{m s co out:Int}(h:A6 m=true):Ar m s 1 co out=(1,0):=by unfold Ar;rw[h];rfl
theorem UN{m s co out:Int}(h:A6 m=true):Ar m s 2 co out=Dc m s co out:=by unfold Ar;rw[h];rfl
theorem Qz{m s co out:Int}(hm:Eg m)(h:A8 m=true):Ar m s 2 co out=(m,s):=by rcases hm with rfl|rfl|rfl|rfl<;>first|rfl|cases h
theorem Ha{m:Int}(hm:Eg m):A6 m= !A8 m:=by rcases hm with rfl|rfl|rfl|rfl<;>rfl
theorem Pz(m s co out:Int):Eg (Dc m s co out).1:=by
 unfold Dc Eg;repeat' split
 all_goals simp
structure StepE (c:Nat->Int) (S:Chs) (t:Tk):Prop where
 ev:(CR c S t).ev=0∨(CR c S t).ev=1∨(CR c S t).ev=2∨(CR c S t).ev=3
 ac:(CR c S t).ac=true<->(CR c S t).ev=0∨(CR c S t).ev=1
 re:(CR c S t).ac=true->(CR c S t).re=false
 one:(CR c S t).ev=1->A6 S.m=true
 lost:CL c S.ru t.a=true<->(CR c S t).ev=3
theorem Il{c:Nat->Int}{S:Chs}(hm:Eg S.m)(t:Tk):StepE c S t:=by
 have hv:=Ha hm
 unfold Eg at hm
 cases hlost:CL c S.ru t.a
 ·cases hsk:A8 S.m
  ·rw[hsk]at hv
   cases hok:t.ok
   ·constructor<;>(unfold CR;simp[hlost,hsk,hok])
   obtain⟨T,hT⟩: ∃T,DE c (BZ c S.x (BM c S.la t.a)) (Bm c S.p (AU c t.a)) S.gc S.kn t.sh t.pr=T:=⟨_,rfl⟩
   constructor<;>(unfold CR;cases T<;>simp[hlost,hsk,hok,hT,hv])
  cases hok:t.ok
  ·constructor<;>(unfold CR;simp[hlost,hsk,hok])
  obtain⟨T,hT⟩: ∃T,Fy S.zs=T:=⟨_,rfl⟩
  constructor<;>(unfold CR;cases T<;>simp[hlost,hsk,hok,hT])
 constructor<;>(unfold CR;simp[hlost])
theorem P3{c:Nat->Int}{S:Chs}(hm:Eg S.m)(t:Tk):Eg (AA c S t).1.m:=by
 have E:=Il (c:=c) hm t
 show Eg (Ar S.m S.s (CR c S t).ev (c 28) (c 29)).1
 rcases E.ev with q|q|q|q<;>rw[q]
 ·rw[RW hm];simp[Eg]
 ·rw[Rl (E.one q)];simp[Eg]
 ·cases hsk:A8 S.m
  ·rw[UN (by rw[Ha hm,hsk];rfl)];exact Pz _ _ _ _
  rw[Qz hm hsk];exact hm
 rw[RV hm];simp[Eg]
theorem Cu(c:Nat->Int)(T:Nat->Tk): ∀k,Eg (AB c T k).m
 |0=>Or.inl rfl
 |k+1=>P3 (Cu c T k) (T k)
end
section
open Go.RowKit
theorem ZR{x A B:Int}(hA:0<=A)(hB:0<=B):Ac x (mn A B)=x<->x*x<=A*B:=by
 obtain⟨h0,h1⟩:=aR hA hB
 have h2:=cj hA hB
 generalize hm:mn A B=m at*
 constructor
 ·intro h
  rcases clampZ_self.1 h with⟨_,k1,k2⟩|⟨_,k⟩
  ·refine Int.le_trans ?_ h1
   by_cases q:0<=x
   ·exact Int.mul_le_mul k2 k2 q h0
   have:=Int.mul_le_mul (a:= -x) (b:= -x) (c:=m) (d:=m) (by omega) (by omega) (by omega) h0
   rwa[Int.neg_mul_neg]at this
  omega
 intro h
 refine clampZ_self.2 (Or.inl ⟨h0,?_,?_⟩)
 ·refine Int.not_lt.1 (λq=> ?_)
  have:=Int.mul_le_mul (a:=m+1) (b:=m+1) (c:= -x) (d:= -x) (by omega) (by omega) (by omega) (by omega)
  rw[Int.neg_mul_neg]at this;omega
 refine Int.not_lt.1 (λq=> ?_)
 have:=Int.mul_le_mul (a:=m+1) (b:=m+1) (c:=x) (d:=x) (by omega) (by omega) (by omega) (by omega)
 omega
theorem Zp(x m:Int):Ac (Ac x m) m=Ac x m:=by unfold Ac;(repeat' split)<;>omega
theorem Yv{x f c:Int}:NL (NL x f c) f c=NL x f c:=by unfold NL;omega
theorem ZU{x A B:Int}(hA:0<=A)(hB:0<=B):Ac x (mn A B)*Ac x (mn A B)<=A*B:=(ZR hA hB).1 (Zp _ _)
theorem Z3{p f c:Nat->Int}: ∀i,tm (tm p f c) f c i=tm p f c i:=by
 intro i
 match i with
 |0=>exact Yv
 |1=>show Ac (Ac _ _) (mn (NL (NL _ _ _) _ _-_) (NL (NL _ _ _) _ _-_))=_;rw[Yv,Yv,Zp];rfl
 |2=>show Ac (Ac _ _) (mn (NL (NL _ _ _) _ _-_) (NL (NL _ _ _) _ _-_))=_;rw[Yv,Yv,Zp];rfl
 |3=>exact Yv
 |4=>show Ac (Ac _ _) (mn (NL (NL _ _ _) _ _-_) (NL (NL _ _ _) _ _-_))=_;rw[Yv,Yv,Zp];rfl
 |_+5=>exact Yv
theorem aj{A B m:Int}(hA:0<=A/\A<=m)(hB:0<=B/\B<=m):mn A B<=m:=by
 obtain⟨h0,h1⟩:=aR hA.1 hB.1
 refine Int.not_lt.1 (λq=> ?_)
 have h2:=Int.mul_le_mul hA.2 hB.2 hB.1 (by omega)
 have h3:=Int.mul_le_mul (a:=m+1) (b:=m+1) (c:=mn A B) (d:=mn A B) (by omega) (by omega) (by omega) h0
 have h4:(m+1)*(m+1)=m*m+2*m+1:=by rw[Int.add_mul,Int.mul_add,Int.mul_one,Int.one_mul];omega
 omega
theorem bZ{p f c:Nat->Int}(h:E5 f c=true):ZI (tm p f c) f=true/\tm p f c 0<=c 0/\tm p f c 3<=c 1/\tm p f c 5<=c 2:=by
 obtain⟨⟨a1,a2,a3⟩,⟨b1,b2,b3⟩,c1,c2,c3⟩:=KY h
 have d0:=Nc (x:=p 0) a2
 have d1:=Nc (x:=p 3) b2
 have d2:=Nc (x:=p 5) c2
 have e0:0<=NL (p 0) (f 0) (c 0)-f 0/\NL (p 0) (f 0) (c 0)-f 0<=288230376151711744:=by omega
 have e1:0<=NL (p 3) (f 1) (c 1)-f 1/\NL (p 3) (f 1) (c 1)-f 1<=288230376151711744:=by omega
 have e2:0<=NL (p 5) (f 2) (c 2)-f 2/\NL (p 5) (f 2) (c 2)-f 2<=288230376151711744:=by omega
 have m1:=ZV (x:=p 1) (aR e0.1 e1.1).1
 have m2:=ZV (x:=p 2) (aR e0.1 e2.1).1
 have m3:=ZV (x:=p 4) (aR e1.1 e2.1).1
 have n1:=aj e0 e1
 have n2:=aj e0 e2
 have n3:=aj e1 e2
 refine⟨soundB_true.2 ⟨?_,⟨d0.1,d1.1,d2.1⟩,?_,?_,?_⟩,d0.2,d1.2,d2.2⟩
 ·simp only[Ap,Fl,tm,Bool.true_and,Bool.and_eq_true,fitB_true]
  omega
 ·rw[Int.mul_comm (tm p f c 3-f 1)];exact ZU e0.1 e1.1
 ·rw[Int.mul_comm (tm p f c 5-f 2)];exact ZU e0.1 e2.1
 rw[Int.mul_comm (tm p f c 5-f 2)];exact ZU e1.1 e2.1
theorem Zm{x f c:Int}(h1:f<=x)(h2:x<=c):NL x f c=x:=by unfold NL;omega
theorem cH{p f c:Nat->Int}(hs:ZI p f=true)(h0:p 0<=c 0)(h1:p 3<=c 1)(h2:p 5<=c 2):tm p f c 0=p 0/\tm p f c 1=p 1/\tm p f c 2=p 2/\tm p f c 3=p 3/\tm p f c 4=p 4/\tm p f c 5=p 5:=by
 obtain⟨_,⟨a0,a1,a2⟩,b0,b1,b2⟩:=soundB_true.1 hs
 have d0:=Zm a0 h0
 have d1:=Zm a1 h1
 have d2:=Zm a2 h2
 refine⟨d0,?_,?_,d1,?_,d2⟩
 ·show Ac _ (mn (NL _ _ _-_) (NL _ _ _-_))=_;rw[d0,d1];exact(ZR (by omega) (by omega)).2 (by rw[Int.mul_comm (p 0-f 0)];exact b0)
 ·show Ac _ (mn (NL _ _ _-_) (NL _ _ _-_))=_;rw[d0,d2];exact(ZR (by omega) (by omega)).2 (by rw[Int.mul_comm (p 0-f 0)];exact b1)
 show Ac _ (mn (NL _ _ _-_) (NL _ _ _-_))=_;rw[d1,d2];exact(ZR (by omega) (by omega)).2 (by rw[Int.mul_comm (p 3-f 1)];exact b2)
theorem bN{m n f:Nat->Int}(h0:m 0=n 0)(h1:m 1=n 1)(h2:m 2=n 2)(h3:m 3=n 3)(h4:m 4=n 4)(h5:m 5=n 5):ZI m f=ZI n f:=by
 unfold ZI Ap;simp only[Fl,h0,h1,h2,h3,h4,h5]
theorem aO{p f c:Nat->Int}(h:E5 f c=true):bB p f c=true<->(tm p f c 0=p 0/\tm p f c 1=p 1/\tm p f c 2=p 2/\tm p f c 3=p 3/\tm p f c 4=p 4/\tm p f c 5=p 5):=by
 unfold bB;rw[h,Bool.true_and,beq_iff_eq]
 simp only[List.cons.injEq,and_true]
theorem bE{p f c:Nat->Int}(h:E5 f c=true):bB p f c=true<->(ZI p f=true/\p 0<=c 0/\p 3<=c 1/\p 5<=c 2):=by
 rw[aO h]
 constructor
 ·intro⟨h0,h1,h2,h3,h4,h5⟩
  obtain⟨s,a,b,d⟩:=bZ (p:=p) h
  exact⟨(bN h0 h1 h2 h3 h4 h5).symm.trans s,h0▸a,h3▸b,h5▸d⟩
 intro⟨s,a,b,d⟩;exact cH s a b d
theorem cZ{p f c:Nat->Int}(h:E5 f c=true):CK p f c=tm p f c:=funext (VM h).2
end
section
open Go.RowKit
theorem cM{x:Int}(hx:Ag x=true): -18014398509481984<=Bp x/\Bp x<=18014398509481984:=by
 have a:=OC hx
 have b:=Oq hx
 obtain⟨t1,t2,t3,_,_⟩:=Qb hx
 have h0:0<=281474976710656*(tabL.getD (BG x-1) 0-x):=by omega
 have h1:Int.tdiv (281474976710656*(tabL.getD (BG x-1) 0-x)) (tabL.getD (BG x-1) 0-tabL.getD (BG x) 0)<=281474976710656:=by
  rw[Int.tdiv_eq_ediv_of_nonneg h0]
  refine Int.ediv_le_of_le_mul (by omega) (Int.mul_le_mul_of_nonneg_left (by omega) (by decide))
 unfold Bp
 omega
def ZS(c p:Nat->Int):Prop:=bB p (cF c) (cC c)=true
def ce(c x:Nat->Int):Prop:= ∀i,i<3->Ac (x i) (cB c i)=x i
theorem aT{c:Nat->Int}(hk:Ct c=0)(p:Nat->Int):ZS c (CK p (cF c) (cC c)):=by
 have h:E5 (cF c) (cC c)=true:=bQ hk
 unfold ZS
 rw[cZ h]
 exact(aO h).2 ⟨Z3 0,Z3 1,Z3 2,Z3 3,Z3 4,Z3 5⟩
theorem ak{c:Nat->Int}(hk:Ct c=0):ZS c (v6 (c 8) 0 0 (c 9) 0 (c 10)):=by
 have h:E5 (cF c) (cC c)=true:=bQ hk
 have s:=bK hk
 have l:=cP hk
 have hs: ∀i,cF c i=c (11+i):= λ_=>rfl
 have hl: ∀i,cC c i=c (14+i):= λ_=>rfl
 obtain⟨⟨a1,a2,a3⟩,⟨b1,b2,b3⟩,d1,d2,d3⟩:=KY h
 simp only[hs,hl,Nat.add_zero,Nat.reduceAdd]at a1 a2 a3 b1 b2 b3 d1 d2 d3
 have m0:=Int.mul_nonneg (show 0<=c 9-c 12 by omega) (show 0<=c 8-c 11 by omega)
 have m1:=Int.mul_nonneg (show 0<=c 10-c 13 by omega) (show 0<=c 8-c 11 by omega)
 have m2:=Int.mul_nonneg (show 0<=c 10-c 13 by omega) (show 0<=c 9-c 12 by omega)
 refine(bE h).2 ⟨soundB_true.2 ⟨?_,⟨?_,?_,?_⟩,?_,?_,?_⟩,?_,?_,?_⟩
 ·simp only[Ap,Fl,v6,Bool.true_and,Bool.and_eq_true,fitB_true];omega
 all_goals first
  |(show c 11<=c 8;omega)
  |(show c 12<=c 9;omega)
  |(show c 13<=c 10;omega)
  |(show(0:Int)*0<=(c 9-c 12)*(c 8-c 11);simpa using m0)
  |(show(0:Int)*0<=(c 10-c 13)*(c 8-c 11);simpa using m1)
  |(show(0:Int)*0<=(c 10-c 13)*(c 9-c 12);simpa using m2)
  |(show c 8<=c 14;omega)
  |(show c 9<=c 15;omega)
  |(show c 10<=c 16;omega)
theorem an(c x:Nat->Int):ce c (V8 c x):= λi _=>Zp (x i) (cB c i)
theorem b8{c:Nat->Int}(hk:Ct c=0){z:Int}(h: -18014398509481984<=z/\z<=18014398509481984):ce c (v3 z 0 0):=by
 have b:=bG hk
 intro i hi
 match i with
 |0=>exact clampZ_self.2 (Or.inl ⟨by show 0<=c 17;omega,by show-c 17<=z;omega,by show z<=c 17;omega⟩)
 |1=>exact clampZ_self.2 (Or.inl ⟨by show 0<=c 18;omega,by show-c 18<=0;omega,by show 0<=c 18;omega⟩)
 |2=>exact clampZ_self.2 (Or.inl ⟨by show 0<=c 19;omega,by show-c 19<=0;omega,by show 0<=c 19;omega⟩)
 |_+3=>omega
theorem af{c p:Nat->Int}(hk:Ct c=0)(h:ZS c p)(held:Bool):ZS c (Bm c p held):=by
 unfold Bm;split
 ·exact aT hk _
 exact h
theorem bU{c x p:Nat->Int}{gc:Int}{kn sh:Bool}{z:Int}(hk:Ct c=0)(h:ZS c p):ZS c (L0 c x p gc kn sh z):=by
 unfold L0;split
 ·exact aT hk _
 exact h
theorem cU{c x p:Nat->Int}{gc:Int}{kn sh:Bool}{z:Int}(h:ce c x):ce c (Do c x p gc kn sh z):=by
 unfold Do;split
 ·exact an c _
 exact h
def bJ(c:Nat->Int)(S:Chs):Prop:=A6 S.m=true->ZS c S.p/\ce c S.x
theorem bC{c:Nat->Int}{S:Chs}{N:Nat}(t:Tk)(hk:Ct c=0)(hI:ChI c S N)(hm:Eg S.m)(h:bJ c S):bJ c (AA c S t).1:=by
 intro hv
 have E:=Il (c:=c) hm t
 show ZS c (CR c S t).p/\ce c (CR c S t).x
 have hv2:A6 (Ar S.m S.s (CR c S t).ev (c 28) (c 29)).1=true:=hv
 have hvs:=Ha hm
 cases hl:CL c S.ru t.a
 ·cases hsk:A8 S.m
  ·have hv1:A6 S.m=true:=by rw[hvs,hsk];rfl
   obtain⟨g1,g2⟩:=h hv1
   have e: ∀q,(CR c S t)=q->(CR c S t).p=q.p/\(CR c S t).x=q.x:= λq e=>by rw[e];exact⟨rfl,rfl⟩
   cases hok:t.ok
   ·have e:=e ⟨BZ c S.x (BM c S.la t.a),Bm c S.p (AU c t.a),S.zs,S.gc,S.kn,2,false,false,false⟩ (by unfold CR;simp[hl,hsk,hok])
    rw[e.1,e.2]
    exact⟨af hk g1 _,an c _⟩
   have e1:(CR c S t).p=L0 c (BZ c S.x (BM c S.la t.a)) (Bm c S.p (AU c t.a)) S.gc S.kn t.sh t.pr/\(CR c S t).x=Do c (BZ c S.x (BM c S.la t.a)) (Bm c S.p (AU c t.a)) S.gc S.kn t.sh t.pr:=by
    unfold CR;simp[hl,hsk,hok]
   rw[e1.1,e1.2]
   exact⟨bU hk (af hk g1 _),cU (an c _)⟩
  have hnv:A6 S.m=false:=by rw[hvs,hsk];rfl
  have hev:(CR c S t).ev=0:=by
   rcases E.ev with q|q|q|q
   ·exact q
   ·rw[E.one q]at hnv;cases hnv
   ·rw[q,Qz hm hsk]at hv2;rw[show(S.m,S.s).1=S.m from rfl,hnv]at hv2;cases hv2
   rw[q,RV hm]at hv2;cases hv2
  cases hok:t.ok
  ·exfalso
   have:(CR c S t).ev=2:=by unfold CR;simp[hl,hsk,hok]
   omega
  have hz:=Vt hok
  have e1:(CR c S t).p=Ng c S.p S.zs/\(CR c S t).x=Dx S.x S.zs t.pr/\(CR c S t).ev=if Fy S.zs=true then 0 else 2:=by
   unfold CR;simp[hl,hsk,hok]
  rw[e1.1,e1.2.1]
  have h15:S.zs.length=15:=by
   have q:=e1.2.2
   rw[hev]at q
   by_cases z:S.zs.length=15
   ·exact z
   rw[show Fy S.zs=false from decide_eq_false z]at q;simp at q
  unfold Ng Dx
  rw[if_pos h15,if_pos h15]
  exact⟨ak hk,b8 hk (cM (EU (Ef hI.hzs hz h15)))⟩
 exfalso
 have q:=E.lost.1 hl
 rw[q,RV hm]at hv2
 cases hv2
theorem aZ{c:Nat->Int}(T:Nat->Tk)(hc: ∀i,Ai (c i))(hk:Ct c=0): ∀k,bJ c (AB c T k)
 |0=> λh=>by cases h
 |k+1=>bC (T k) hk (C6 T hc hk k) (Cu c T k) (aZ T hc hk k)
theorem bD{c:Nat->Int}(T:Nat->Tk)(hc: ∀i,Ai (c i))(hk:Ct c=0)(k:Nat)(h:(Am c T k).va=true):
 bB (AA c (AB c T k) (T k)).1.p (cF c) (cC c)=true/\(∀i,i<3->Ac ((AA c (AB c T k) (T k)).1.x i) (cB c i)=(AA c (AB c T k) (T k)).1.x i)/\(AA c (AB c T k) (T k)).1.s<=c 29/\(Am c T k).al=BB ((AA c (AB c T k) (T k)).1.x 0):=by
 have g:=aZ T hc hk (k+1) h
 refine⟨g.1,g.2,(C6 T hc hk (k+1)).hs.2,?_⟩
 show(if A6 (AB c T (k+1)).m=true then BB ((AB c T (k+1)).x 0)else 0)=_
 exact if_pos h
theorem bX{c:Nat->Int}(T:Nat->Tk)(k:Nat)(h:(Am c T k).va=false):(Am c T k).al=0/\(Am c T k).sp=0/\(Am c T k).bi=0:=by
 have e: ¬A6 (AB c T (k+1)).m=true:=by rw[show A6 (AB c T (k+1)).m=false from h];simp
 exact⟨if_neg e,if_neg e,if_neg e⟩
end
section
open Go.RowKit
theorem cG(x:Int):ev x (AI 24)=BB x:=by have:=FB 24;unfold BB ev;rw[if_neg (by omega)]
set_option maxRecDepth 1000000 in
set_option maxHeartbeats 8000000 in
theorem bF(x:Int)(hx:Ai x)(w:World):Calls Tryz.prog 19 #[.int .i64 x] w (λe w'=>e=.returned (.int .i64 (BB x))/\Below w.heap.size w w'):=by
 exact(let B:Base:=(⟨w,λ_=>False⟩:Base);let R:Ending->World->Prop:=(λe w'=>e=.returned (.int .i64 (BB x))/\Below w.heap.size w w');AC (f:=19) (B:=B) (R:=R) (es:=[]) (c:=Tryz.f19.body.getD .skip) (tmps:=(Gn [vI x] 13))
  (.s [.c,.c,.v,.c,.c,.c,.v] (.big x (λA1 c2=>.big (AI 24) (λA4 c5=>.big (ev x (AI 24)) (λA7 c8=>.s [.call (.tuple #[vI (Ae (ev x (AI 24))),vI (CN (ev x (AI 24)))]),.v,.v,.v,.v,.v,.c,.c,.c,.v,.v,.c] (.ret []))))))
  (by kernel_rfl) (Sx.refl w _) ExX.nil Tryz.func19 (by kernel_rfl) (by kernel_rfl) (Eq.mp (by kernel_rfl) (aI (cb B [] [] [] [] x λW hS=>ZO x hx W) (λ(A1:Option Addr)(c2:Nat)=>hv (show nd x<=4 from(cW hx)) (λnA1=>let gs3:BN:=[(A1,c2,x)];aI (cb B [] gs3 [] [] (AI 24) λW hS=>Yq 24 (by decide) W) (λ(A4:Option Addr)(c5:Nat)=>hv (show nd (AI 24)<=2 from(by rw[Y9];decide)) (λnA4=>let gs6:BN:=[(A1,c2,x),(A4,c5,AI 24)];aI (cb B [] gs6 [] [] (ev x (AI 24)) λW hS=>Z8 x (AI 24) _ _ _ _ (show AI 24≠0 by have:=FB 24;omega) (Nat.le_trans nA1 (by decide)) (Nat.le_trans nA4 (by decide)) W (hS.rb 0 rfl) (hS.rb 1 rfl)) (λ(A7:Option Addr)(c8:Nat)=>hv (show nd (ev x (AI 24))<=5 from(by have h1:=nA1;have h2:=cg x (show AI 24≠0 by have:=FB 24;omega);omega)) (λnA7=>let gs9:BN:=[(A1,c2,x),(A4,c5,AI 24),(A7,c8,ev x (AI 24))];aI (cv B [] gs9 [] [] λW hS=>cJ (ev x (AI 24)) _ _ (Nat.le_trans nA7 (by decide)) W (hS.rb 2 rfl)) (aI trivial ((show AO B R [] gs9 [] [] (vI (Ae (ev x (AI 24))))from by
      exactλW hS=>⟨by rw[cG,show Ae (BB x)=BB x from if_pos (Sq hx)],hS.bl⟩))))))))))))
end
section
open Go.RowKit
theorem XG{A:Option Addr}{b o n:Nat}(c k:Nat)(hA:0<n->A=some ⟨b,o,none⟩)(h:k<n):IJ Tryz.prog (do pure (.value (<-Instr.indexAt 62 (.slice A n c) (.int .i64 (k:Int))))) (.pointer (some ⟨b,o+k*4,none⟩)):=by
 obtain rfl:=hA (by omega);exact Dh b o n c k h
end
end Go.Proofs.YtikajapjkdloaaaGreatDoor
