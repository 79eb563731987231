/- The way from a walk's end to a law's row: the law returned true, and below the old heap nothing has turned. Opening of plain arguments. -/
import Derived.ProofKit
import Derived.OpenShut
import Derived.Below
import Derived.Carry
import Derived.ReadAgain
import Derived.Lib.SmallJoins
import Derived.Deep.DeepHandedRow
import Derived.LaidMore
import Derived.LaidLaws
import Derived.Stop.Joined
import Derived.Lib.LaidTab
import Derived.Test.YtikajapjkdloaaaGreatDoorCards
import Derived.Test.YtikajapjkdloaaaGreatDoorTie
import Derived.Test.YtikajapjkdloaaaGreatDoor942
import Derived.Deep.Slices
namespace Go.Proofs.YtikajapjkdloaaaGreatDoor
set_option linter.unusedVariables false
set_option linter.unusedSimpArgs false
section
open Go.RowKit Go.WideShapes Go.ChangeShapes Go.WideElems
set_option maxRecDepth 100000
theorem Fh:laidOutB Tryz.prog=true:=by kernel_rfl
theorem Kn{H:Type}{enc:TypeId×Value->H}{P:Program}(hl:laidOutB P=true){W W':World}{sp:Nat->Bool}(hb:Below W.heap.size W W'):
 ∀{ts:List TypeId}{vs:List Value}{ds:List (DataW H)}{ps:List MemPlace},(∀t∈ts,P.readableRec t=true/\t<P.types.size)->
  DataW.TrodAll enc P W 0 (λ_=>true) true ts vs ds ps->(∀p∈ps,p.block<W.heap.size)->(∀p∈ps,sp p.block=true)->DataW.TrodAll enc P W' 0 sp true ts vs ds ps
 | [],[],[],_,_,h,_,_=>h
 | [],[],_::_,_,_,h,_,_=>h.elim
 | [],_::_,_,_,_,h,_,_=>h.elim
 |_::_,[],_,_,_,h,_,_=>h.elim
 |_::_,_::_,[],_,_,h,_,_=>h.elim
 |t::ts,v::vs,d::ds,ps,hr,h,hlt,hs=>by
  obtain⟨p,q,h1,h2,e⟩:=h
  have hp: ∀x∈p,x∈ps:= λx hx=>by rw[e];simp[hx]
  have hq: ∀x∈q,x∈ps:= λx hx=>by rw[e];simp[hx]
  exact⟨p,q,Trod_stays hl (hr t (by simp)).1 (hr t (by simp)).2 h1 (λx hx=>hb.same (hlt x (hp x hx))) (λx hx=>hs x (hp x hx)),
   Kn hl hb (λt' ht'=>hr t' (by simp[ht'])) h2 (λx hx=>hlt x (hq x hx)) (λx hx=>hs x (hq x hx)),e⟩
theorem Ji{H:Type}{enc:TypeId×Value->H}{P:Program}{f:Func}{s:ChangeSpec}{apart fresh handsOn again:Bool}{W W':World}{args:Array Value}{t:TypeId}{ds gs:List (DataW H)}{before:List MemPlace}
 (hW:DataW.Whole enc P f.params.toList s.vars apart W args.toList ds gs before)(hv:s.vars=[])(hres:(s.fn H ds).results=[.lit (.bool true)])(hargs:(s.fn H ds).args=ds)(hvs:(s.fn H ds).vars=[])
 (hrt:f.resultTypes=#[t])(ht:P.underlying t=some .bool)(hl:laidOutB P=true)(hreadB:(f.params.toList.all λt=>P.readableRec t&&decide (t<P.types.size))=true)(hb:Below W.heap.size W W'):
 s.post enc P f apart fresh handsOn again W args (.bool true) W':=by
 have hread: ∀t∈f.params.toList,P.readableRec t=true/\t<P.types.size:= λt ht=>by simpa using List.all_eq_true.1 hreadB t ht
 have hlt: ∀p∈before,p.block<W.heap.size:= λp hp=>hW.lt p hp
 have hW0:=hW
 obtain⟨p,q,hA,hV,e,hz,hn⟩:=hW
 rw[hv]at hV
 obtain⟨rfl,rfl⟩:=trodVars_none hV
 rw[List.append_nil]at e
 subst e
 have hA': ∀sp:Nat->Bool,(∀p∈before,sp p.block=true)->DataW.TrodAll enc P W' 0 sp true f.params.toList args.toList ds before:= λsp hs=>Kn hl hb hread hA hlt hs
 have hold: ∀p∈before,(λb=>decide (b<W.heap.size)) p.block=true:= λp hp=>by simpa using hlt p hp
 have hR: ∀(b:Nat)(sp:Nat->Bool)(hd:Bool),DataW.TrodAll enc P W' b sp hd f.resultTypes.toList ((Value.bool true).resultList f.resultTypes.size) (s.fn H ds).results []:=by
  intro b sp hd
  rw[hrt,hres]
  exact trodAll_cons_mk (shut_bool ht true) trodAll_mk0
 have hV': ∀sp:Nat->Bool,DataW.TrodVars enc P W' sp s.vars (s.fn H ds).vars []:= λsp=>by rw[hv,hvs];exact rfl
 have hds:ds++([]:List (DataW H))=ds:=List.append_nil ds
 refine⟨ds,[],before,[],before,[],hW0,?_,?_,?_,World.keptBut_mono (λp hp=>⟨hp,Or.inr (Or.inl hp)⟩) (hb.frame (·∈before)),λ_=> ?_⟩
 ·rw[hds];exact hR _ _ _
 ·rw[hds,hargs];exact hA' _ hold
 ·rw[hds];exact hV' _
 refine⟨ok_one hrt rfl (okWide_bool_mk ht _),(.lit (.bool true))::ds,[],before,⟨before,[],?_,?_,(List.append_nil _).symm,?_,hn⟩,λp hp _=>hp⟩
 ·have:=trodAll_append (hA' (λ_=>true) (λ_ _=>rfl)) (hR 0 (λ_=>true) true)
  rw[hres]at this
  simpa using this
 ·rw[hv];exact rfl
 intro b off hp
 rw[hb.frozen (hlt _ hp)]
 exact hz b off hp
theorem U0{n:Int}(h:(Lit.int .i64 n).wf=true):Ai n:=by have:=bounds_i64 h;unfold Ai;omega
section
variable {H:Type} {enc:TypeId×Value->H} {w:World} {base:Nat} {spare:Nat->Bool} {held:Bool} {r:Reach} {b0:Nat} {v:Value} {d:DataW H} {p:List MemPlace}
end
end
section
open Go.RowKit Go.WideShapes Go.ChangeShapes Go.WideElems
set_option maxRecDepth 100000
theorem Sf{l:List Value}:(∀v∈l,∃x:Int,Ai x/\v=.int .i64 x)-> ∃xs:List Int,(∀x∈xs,Ai x)/\l=xs.map (Value.int .i64):=by
 intro h
 induction l with
 |nil=>exact⟨[],by simp,rfl⟩
 |cons v r ih=>
  obtain⟨x,hx,rfl⟩:=h v (by simp)
  obtain⟨xs,h1,rfl⟩:=ih λu hu=>h u (by simp[hu])
  exact⟨x::xs,λy hy=>by rcases List.mem_cons.1 hy with rfl|hy;exact hx;exact h1 y hy,rfl⟩
section
variable {H:Type} {enc:TypeId×Value->H} {P:Program} {w:World} {base:Nat} {spare:Nat->Bool} {held:Bool} {r:Reach} {b0:Nat} {v:Value} {d:DataW H} {p:List MemPlace}
theorem dV{n:Nat}{t e:TypeId}(ht:P.underlying t=some (.array n e))(he:P.underlying e=some (.int .i64))(hc:P.cellsOf e=1)(hct:P.cellsOf t=n)
 (hv:Value.okWide P w r b0 t v)(h:DataW.Trod enc P w base spare held t v d p): ∃xs:List Int,xs.length=n/\(∀x∈xs,Ai x)/\v=.agg (xs.map (Value.int .i64)).toArray:=by
 simp only[Value.okWide,ht]at hv
 obtain⟨cs,rfl,hsz,_⟩:=hv
 obtain⟨fuel,hf⟩:=h
 obtain⟨ys,m,_,_,hl,hyl,hel⟩:=DataW.trod_array ht hf
 obtain⟨l⟩:=cs
 simp only[Value.cells]at hf hl hel
 have hln:l.length=n:=by rw[<-hct];simpa using hl
 have key: ∀v∈l,∃x:Int,Ai x/\v=.int .i64 x:=by
  intro v hv
  obtain⟨i,hi,rfl⟩:=List.mem_iff_getElem.1 hv
  have k:=hel i (by omega)
  rw[hc,Nat.mul_one]at k
  have e1:(l.drop i).take 1=[l[i]]:=by rw[List.drop_eq_getElem_cons hi];rfl
  rw[show(({toList:=l}:Array Value).toList.drop i).take 1=[l[i]]from e1]at k
  have hy:ys[i]? =some (ys[i]'(by omega)):=List.getElem?_eq_getElem (by omega)
  rw[hy]at k
  obtain⟨x,ex,_,wx⟩:=DataW.trod_int he k
  exact⟨x,U0 wx,by simpa using ex⟩
 obtain⟨xs,h1,rfl⟩:=Sf key
 exact⟨xs,by simpa using hln,h1,rfl⟩
end
section
variable {H:Type} {enc:TypeId×Value->H} {w:World} {base:Nat} {spare:Nat->Bool} {held:Bool} {r:Reach} {b0:Nat} {v:Value} {d:DataW H} {p:List MemPlace}
end
end
section
open Go.RowKit Go.WideShapes Go.ChangeShapes Go.WideElems
set_option maxRecDepth 100000
theorem own:ownKnob Tryz.prog.godebug=none:=by kernel_rfl
theorem Ii{P:Program}{w:World}{n:String}{d:DataW Unit}: ∀{l:List (String×DataW Unit)},laidMet P l w->(n,d)∈l->
 ∃g t cs fuel p,P.globalNamed n=some g/\(P.globals[g]?).map (·.type)=some t/\w.var? P n=some cs/\DataW.trod (λ_=>()) P w 0 (λ_=>true) false fuel t cs.toList=some (d,p):=by
 intro l h hm
 obtain⟨ps,hv,-⟩:=h
 revert ps
 induction l with
 |nil=>cases hm
 |cons x r ih=>
  intro ps hv
  obtain⟨m,e⟩:=x
  obtain⟨g,t,cs,fuel,p,q,h1,h2,h3,h4,h5,_⟩:=hv
  rcases List.mem_cons.1 hm with he|hm
  ·cases he;exact⟨g,t,cs,fuel,p,h1,h2,h3,h4⟩
  exact ih hm q h5
section
variable {H:Type} {enc:TypeId×Value->H} {w:World} {base:Nat} {spare:Nat->Bool} {held:Bool} {r:Reach} {b0:Nat} {v:Value} {d:DataW H} {p:List MemPlace}
end
theorem LE{w:World}{L:List (String×DataW Unit)}(hL:laidMet Tryz.prog L w)(hm:("aneroid/sym.places",Rows.laid_aneroid_sym_places)∈L):GP w:=by
 obtain⟨g',t',cs,fuel,p,h1,h2,h3,h4⟩:=Ii hL hm
 have hg:Tryz.prog.globalNamed "aneroid/sym.places" =some 2:=by kernel_rfl
 obtain rfl:=Option.some.inj (hg.symm.trans h1)
 obtain rfl:=Option.some.inj ((show(Tryz.prog.globals[2]?).map (·.type)=some 242 by kernel_rfl).symm.trans h2)
 obtain⟨xs,m,_,hx,hl,hn,hel⟩:=DataW.trod_array Tryz.underlying242 h4
 have c9:Tryz.prog.cellsOf 242=9:=by kernel_rfl
 have c3:Tryz.prog.cellsOf 241=3:=by kernel_rfl
 rw[c9]at hl
 rw[c3]at hel
 match xs,hn with
 | [y0,y1,y2],_=>
   have e0:=hel 0 en
   have e1:=hel 1 en
   have e2:=hel 2 en
   have hd:y0.1=Lib.tabData .i64 [0,1,2]/\y1.1=Lib.tabData .i64 [1,3,4]/\y2.1=Lib.tabData .i64 [2,4,5]:=by
    have:=(Prod.mk.inj hx).1
    simp only[Rows.laid_aneroid_sym_places,List.map_cons,List.map_nil,DataW.agg.injEq,List.cons.injEq,and_true]at this
    exact⟨this.1.symm,this.2.1.symm,this.2.2.symm⟩
   obtain⟨d0,p0⟩:=y0
   obtain⟨d1,p1⟩:=y1
   obtain⟨d2,p2⟩:=y2
   simp only at hd
   obtain⟨rfl,rfl,rfl⟩:=hd
   have k0:=Lib.cells_of_tab Tryz.underlying241 Tryz.underlying3 el c3 e0
   have k1:=Lib.cells_of_tab Tryz.underlying241 Tryz.underlying3 el c3 e1
   have k2:=Lib.cells_of_tab Tryz.underlying241 Tryz.underlying3 el c3 e2
   have hcs:cs.toList=[.int .i64 0,.int .i64 1,.int .i64 2,.int .i64 1,.int .i64 3,.int .i64 4,.int .i64 2,.int .i64 4,.int .i64 5]:=by
    have e:cs.toList=(cs.toList.drop 0).take 3++((cs.toList.drop 3).take 3++(cs.toList.drop 6).take 3):=by
     rw[List.drop_zero]
     have a1:cs.toList.drop 3=(cs.toList.drop 3).take 3++(cs.toList.drop 6):=by
      rw[show cs.toList.drop 6=(cs.toList.drop 3).drop 3 by rw[List.drop_drop]];exact(List.take_append_drop 3 _).symm
     have a2:(cs.toList.drop 6).take 3=cs.toList.drop 6:=List.take_of_length_le (by simp at hl⊢;omega)
     rw[a2,<-a1];exact(List.take_append_drop 3 _).symm
    rw[e]
    simp only[Nat.zero_mul,Nat.one_mul]at k0 k1 k2
    rw[k0,k1,k2];rfl
   have hcell:=World.var?_cell hg h3
   have hget: ∀i,cs[i]? =cs.toList[i]? := λi=>(Array.getElem?_toList ..).symm
   unfold GP
   simp only[hcell,hget,hcs]
   simp
end
section
open Go.RowKit Go.WideShapes Go.ChangeShapes Go.WideElems
set_option maxRecDepth 100000
theorem Ke{w:World}{n:String}{g:Nat}{h l:Int}{L:List (String×DataW Unit)}(hg:Tryz.prog.globalNamed n=some g)(hty:(Tryz.prog.globals[g]?).map (·.type)=some 165)
 (hL:laidMet Tryz.prog L w)(hm:(n,DataW.agg [.lit (.int .i64 h),.lit (.int .u64 l)])∈L):w.cell? ⟨g,0,none⟩=some (.int .i64 h)/\w.cell? ⟨g,1,none⟩=some (.int .u64 l):=by
 obtain⟨g',t',cs,fuel,p,h1,h2,h3,h4⟩:=Ii hL hm
 obtain rfl:=Option.some.inj (hg.symm.trans h1)
 obtain rfl:=Option.some.inj (hty.symm.trans h2)
 obtain⟨y0,y1,m,hx,hl,k0,k1⟩:=trod_struct2 Tryz.underlying165 h4
 obtain⟨x,ex,rfl,_⟩:=DataW.trod_int Tryz.underlying2 k0
 obtain⟨y,ey,rfl,_⟩:=DataW.trod_int Tryz.underlying163 k1
 simp only[Prod.mk.injEq,DataW.agg.injEq,List.cons.injEq,DataW.lit.injEq,Lit.int.injEq,and_true,true_and]at hx
 obtain⟨⟨rfl,rfl⟩,_⟩:=hx
 have hc2:Tryz.prog.cellsOf 165=2:=by kernel_rfl
 have e0:Tryz.prog.cellsOf 2=1:=by kernel_rfl
 have e1:Tryz.prog.cellsOf 163=1:=by kernel_rfl
 rw[hc2]at hl
 obtain⟨c0,c1,rfl⟩:=Joins.array2 (by simpa using hl)
 simp[e0]at ex
 simp[e1]at ey
 subst ex
 subst ey
 exact⟨World.var?_cell hg h3 0,World.var?_cell hg h3 1⟩
theorem Ly{w:World}{L:List (String×DataW Unit)}(hL:laidMet Tryz.prog L w)(hm:("aneroid/wide.none",Rows.laid_aneroid_wide_none)∈L):GN w:=Ke el el hL hm
end
section
open Go.RowKit Go.WideShapes Go.ChangeShapes Go.WideElems
set_option maxRecDepth 100000
theorem Li{w:World}{L:List (String×DataW Unit)}(hL:laidMet Tryz.prog L w)(hm:("aneroid/wide.least",Rows.laid_aneroid_wide_least)∈L):GL w:=Ke el el hL hm
end
section
open Go.RowKit Go.WideShapes Go.ChangeShapes Go.WideElems
set_option maxRecDepth 100000
theorem LN{w:World}{L:List (String×DataW Unit)}(hL:laidMet Tryz.prog L w)(hm:("aneroid/spread.rows",Rows.laid_aneroid_spread_rows)∈L):GR w:=by
 obtain⟨g',t',cs,fuel,p,h1,h2,h3,h4⟩:=Ii hL hm
 have hg:Tryz.prog.globalNamed "aneroid/spread.rows" =some 3:=by kernel_rfl
 obtain rfl:=Option.some.inj (hg.symm.trans h1)
 obtain rfl:=Option.some.inj ((show(Tryz.prog.globals[3]?).map (·.type)=some 246 by kernel_rfl).symm.trans h2)
 obtain⟨xs,m,_,hx,hl,hn,hel⟩:=DataW.trod_array Tryz.underlying246 h4
 have c9:Tryz.prog.cellsOf 246=9:=by kernel_rfl
 have c3:Tryz.prog.cellsOf 22=3:=by kernel_rfl
 rw[c9]at hl
 rw[c3]at hel
 match xs,hn with
 | [y0,y1,y2],_=>
   have e0:=hel 0 en
   have e1:=hel 1 en
   have e2:=hel 2 en
   have hd:y0.1=Lib.tabData .i64 [32768,256,-1]/\y1.1=Lib.tabData .i64 [0,32768,-256]/\y2.1=Lib.tabData .i64 [0,0,32768]:=by
    have:=(Prod.mk.inj hx).1
    simp only[Rows.laid_aneroid_spread_rows,List.map_cons,List.map_nil,DataW.agg.injEq,List.cons.injEq,and_true]at this
    exact⟨this.1.symm,this.2.1.symm,this.2.2.symm⟩
   obtain⟨d0,p0⟩:=y0
   obtain⟨d1,p1⟩:=y1
   obtain⟨d2,p2⟩:=y2
   simp only at hd
   obtain⟨rfl,rfl,rfl⟩:=hd
   have k0:=Lib.cells_of_tab Tryz.underlying22 Tryz.underlying2 el c3 e0
   have k1:=Lib.cells_of_tab Tryz.underlying22 Tryz.underlying2 el c3 e1
   have k2:=Lib.cells_of_tab Tryz.underlying22 Tryz.underlying2 el c3 e2
   have hcs:cs.toList=[.int .i64 32768,.int .i64 256,.int .i64 (-1),.int .i64 0,.int .i64 32768,.int .i64 (-256),.int .i64 0,.int .i64 0,.int .i64 32768]:=by
    have e:cs.toList=(cs.toList.drop 0).take 3++((cs.toList.drop 3).take 3++(cs.toList.drop 6).take 3):=by
     rw[List.drop_zero]
     have a1:cs.toList.drop 3=(cs.toList.drop 3).take 3++(cs.toList.drop 6):=by
      rw[show cs.toList.drop 6=(cs.toList.drop 3).drop 3 by rw[List.drop_drop]];exact(List.take_append_drop 3 _).symm
     have a2:(cs.toList.drop 6).take 3=cs.toList.drop 6:=List.take_of_length_le (by simp at hl⊢;omega)
     rw[a2,<-a1];exact(List.take_append_drop 3 _).symm
    rw[e]
    simp only[Nat.zero_mul,Nat.one_mul]at k0 k1 k2
    rw[k0,k1,k2];rfl
   have hcell:=World.var?_cell hg h3
   have hget: ∀i,cs[i]? =cs.toList[i]? := λi=>(Array.getElem?_toList ..).symm
   unfold GR
   simp only[hcell,hget,hcs]
   simp
end
section
open Go.RowKit Go.WideShapes Go.ChangeShapes Go.WideElems
set_option maxRecDepth 100000
def O1(v:Value):Prop:= ∃x:Int,Ai x/\v=.int .i64 x
section
variable {H:Type} {enc:TypeId×Value->H} {P:Program} {w:World} {base:Nat} {spare:Nat->Bool} {held:Bool} {m:Nat} {l:List Value} {y:DataW H×List MemPlace}
theorem Cb{t:TypeId}(ht:P.underlying t=some (.int .i64))(h:DataW.trod enc P w base spare held m t l=some y): ∀v∈l,O1 v:=by
 obtain⟨x,rfl,_,wx⟩:=DataW.trod_int ht h
 intro v hv
 rw[List.mem_singleton]at hv
 subst hv
 exact⟨x,U0 wx,rfl⟩
theorem Ds{n:Nat}{t e:TypeId}(ht:P.underlying t=some (.array n e))(he:P.underlying e=some (.int .i64))(hc:P.cellsOf e=1)(hct:P.cellsOf t=n)
 (h:DataW.trod enc P w base spare held m t l=some y): ∀v∈l,O1 v:=by
 obtain⟨ys,k,_,_,hl,hyl,hel⟩:=DataW.trod_array ht h
 intro v hv
 obtain⟨i,hi,rfl⟩:=List.mem_iff_getElem.1 hv
 have q:=hel i en
 rw[hc,Nat.mul_one]at q
 have e1:(l.drop i).take 1=[l[i]]:=by rw[List.drop_eq_getElem_cons hi];rfl
 rw[e1,List.getElem?_eq_getElem en]at q
 exact Cb he q _ (List.mem_singleton.2 rfl)
theorem Pd{l:List Value}{o n j:Nat}(hj:j<l.length)(h1:o<=j)(h2:j<o+n):l[j]∈(l.drop o).take n:=by
 refine List.mem_iff_getElem.2 ⟨j-o,by simp;omega,?_⟩
 simp only[List.getElem_take,List.getElem_drop]
 congr 1
 omega
end
section
variable {H:Type} {enc:TypeId×Value->H} {w:World} {base:Nat} {spare:Nat->Bool} {held:Bool} {r:Reach} {b0:Nat} {v:Value} {d:DataW H} {p:List MemPlace}
set_option maxRecDepth 10000 in
theorem Hx(hv:Value.okWide Tryz.prog w r b0 25 v)(h:DataW.Trod enc Tryz.prog w base spare held 25 v d p): ∃c:Nat->Int,(∀i,Ai (c i))/\v=.agg #[.int .i64 (c 0),.int .i64 (c 1),.int .i64 (c 2),.int .i64 (c 3),.int .i64 (c 4),.int .i64 (c 5),.int .i64 (c 6),.int .i64 (c 7),.int .i64 (c 8),.int .i64 (c 9),.int .i64 (c 10),.int .i64 (c 11),.int .i64 (c 12),.int .i64 (c 13),.int .i64 (c 14),.int .i64 (c 15),.int .i64 (c 16),.int .i64 (c 17),.int .i64 (c 18),.int .i64 (c 19),.int .i64 (c 20),.int .i64 (c 21),.int .i64 (c 22),.int .i64 (c 23),.int .i64 (c 24),.int .i64 (c 25),.int .i64 (c 26),.int .i64 (c 27),.int .i64 (c 28),.int .i64 (c 29),.int .i64 (c 30)]:=by
 simp only[Value.okWide,Tryz.underlying25]at hv
 obtain⟨cs,rfl,hsz,_⟩:=hv
 obtain⟨fuel,hf⟩:=h
 obtain⟨xs,n,_,_,hl,hxl,hel⟩:=DataW.trod_struct Tryz.underlying25 hf
 rw[show Tryz.prog.cellsOf 25=31 by kernel_rfl]at hl
 obtain⟨l⟩:=cs
 simp only[Value.cells]at hf hl hel
 have hx17:xs.length=17:=hxl
 have piece: ∀(o k:Nat),(o,k)∈ [(0,3),(3,3),(6,1),(7,1),(8,3),(11,3),(14,3),(17,3),(20,1),(21,3),(24,1),(25,1),(26,1),(27,1),(28,1),(29,1),(30,1)]-> ∀u∈(l.drop o).take k,O1 u:=by
  intro o k hm
  simp only[List.mem_cons,Prod.mk.injEq,List.not_mem_nil,or_false]at hm
  rcases hm with⟨rfl,rfl⟩|⟨rfl,rfl⟩|⟨rfl,rfl⟩|⟨rfl,rfl⟩|⟨rfl,rfl⟩|⟨rfl,rfl⟩|⟨rfl,rfl⟩|⟨rfl,rfl⟩|⟨rfl,rfl⟩|⟨rfl,rfl⟩|⟨rfl,rfl⟩|⟨rfl,rfl⟩|⟨rfl,rfl⟩|⟨rfl,rfl⟩|⟨rfl,rfl⟩|⟨rfl,rfl⟩|⟨rfl,rfl⟩
  ·have q:=hel 0
   simp only[List.getElem?_toArray,List.getElem?_cons_zero,List.getElem?_cons_succ,Option.some.injEq,forall_eq']at q
   rw[List.getElem?_eq_getElem en]at q
   simp only[show Tryz.prog.cellsOf 23=3 by kernel_rfl]at q
   exact Ds Tryz.underlying23 Tryz.underlying2 el el q
  ·have q:=hel 1
   simp only[List.getElem?_toArray,List.getElem?_cons_zero,List.getElem?_cons_succ,Option.some.injEq,forall_eq']at q
   rw[List.getElem?_eq_getElem en]at q
   simp only[show Tryz.prog.cellsOf 23=3 by kernel_rfl]at q
   exact Ds Tryz.underlying23 Tryz.underlying2 el el q
  ·have q:=hel 2
   simp only[List.getElem?_toArray,List.getElem?_cons_zero,List.getElem?_cons_succ,Option.some.injEq,forall_eq']at q
   rw[List.getElem?_eq_getElem en]at q
   simp only[show Tryz.prog.cellsOf 2=1 by kernel_rfl]at q
   exact Cb Tryz.underlying2 q
  ·have q:=hel 3
   simp only[List.getElem?_toArray,List.getElem?_cons_zero,List.getElem?_cons_succ,Option.some.injEq,forall_eq']at q
   rw[List.getElem?_eq_getElem en]at q
   simp only[show Tryz.prog.cellsOf 2=1 by kernel_rfl]at q
   exact Cb Tryz.underlying2 q
  ·have q:=hel 4
   simp only[List.getElem?_toArray,List.getElem?_cons_zero,List.getElem?_cons_succ,Option.some.injEq,forall_eq']at q
   rw[List.getElem?_eq_getElem en]at q
   simp only[show Tryz.prog.cellsOf 23=3 by kernel_rfl]at q
   exact Ds Tryz.underlying23 Tryz.underlying2 el el q
  ·have q:=hel 5
   simp only[List.getElem?_toArray,List.getElem?_cons_zero,List.getElem?_cons_succ,Option.some.injEq,forall_eq']at q
   rw[List.getElem?_eq_getElem en]at q
   simp only[show Tryz.prog.cellsOf 23=3 by kernel_rfl]at q
   exact Ds Tryz.underlying23 Tryz.underlying2 el el q
  ·have q:=hel 6
   simp only[List.getElem?_toArray,List.getElem?_cons_zero,List.getElem?_cons_succ,Option.some.injEq,forall_eq']at q
   rw[List.getElem?_eq_getElem en]at q
   simp only[show Tryz.prog.cellsOf 23=3 by kernel_rfl]at q
   exact Ds Tryz.underlying23 Tryz.underlying2 el el q
  ·have q:=hel 7
   simp only[List.getElem?_toArray,List.getElem?_cons_zero,List.getElem?_cons_succ,Option.some.injEq,forall_eq']at q
   rw[List.getElem?_eq_getElem en]at q
   simp only[show Tryz.prog.cellsOf 23=3 by kernel_rfl]at q
   exact Ds Tryz.underlying23 Tryz.underlying2 el el q
  ·have q:=hel 8
   simp only[List.getElem?_toArray,List.getElem?_cons_zero,List.getElem?_cons_succ,Option.some.injEq,forall_eq']at q
   rw[List.getElem?_eq_getElem en]at q
   simp only[show Tryz.prog.cellsOf 2=1 by kernel_rfl]at q
   exact Cb Tryz.underlying2 q
  ·have q:=hel 9
   simp only[List.getElem?_toArray,List.getElem?_cons_zero,List.getElem?_cons_succ,Option.some.injEq,forall_eq']at q
   rw[List.getElem?_eq_getElem en]at q
   simp only[show Tryz.prog.cellsOf 23=3 by kernel_rfl]at q
   exact Ds Tryz.underlying23 Tryz.underlying2 el el q
  ·have q:=hel 10
   simp only[List.getElem?_toArray,List.getElem?_cons_zero,List.getElem?_cons_succ,Option.some.injEq,forall_eq']at q
   rw[List.getElem?_eq_getElem en]at q
   simp only[show Tryz.prog.cellsOf 2=1 by kernel_rfl]at q
   exact Cb Tryz.underlying2 q
  ·have q:=hel 11
   simp only[List.getElem?_toArray,List.getElem?_cons_zero,List.getElem?_cons_succ,Option.some.injEq,forall_eq']at q
   rw[List.getElem?_eq_getElem en]at q
   simp only[show Tryz.prog.cellsOf 2=1 by kernel_rfl]at q
   exact Cb Tryz.underlying2 q
  ·have q:=hel 12
   simp only[List.getElem?_toArray,List.getElem?_cons_zero,List.getElem?_cons_succ,Option.some.injEq,forall_eq']at q
   rw[List.getElem?_eq_getElem en]at q
   simp only[show Tryz.prog.cellsOf 2=1 by kernel_rfl]at q
   exact Cb Tryz.underlying2 q
  ·have q:=hel 13
   simp only[List.getElem?_toArray,List.getElem?_cons_zero,List.getElem?_cons_succ,Option.some.injEq,forall_eq']at q
   rw[List.getElem?_eq_getElem en]at q
   simp only[show Tryz.prog.cellsOf 2=1 by kernel_rfl]at q
   exact Cb Tryz.underlying2 q
  ·have q:=hel 14
   simp only[List.getElem?_toArray,List.getElem?_cons_zero,List.getElem?_cons_succ,Option.some.injEq,forall_eq']at q
   rw[List.getElem?_eq_getElem en]at q
   simp only[show Tryz.prog.cellsOf 2=1 by kernel_rfl]at q
   exact Cb Tryz.underlying2 q
  ·have q:=hel 15
   simp only[List.getElem?_toArray,List.getElem?_cons_zero,List.getElem?_cons_succ,Option.some.injEq,forall_eq']at q
   rw[List.getElem?_eq_getElem en]at q
   simp only[show Tryz.prog.cellsOf 2=1 by kernel_rfl]at q
   exact Cb Tryz.underlying2 q
  have q:=hel 16
  simp only[List.getElem?_toArray,List.getElem?_cons_zero,List.getElem?_cons_succ,Option.some.injEq,forall_eq']at q
  rw[List.getElem?_eq_getElem en]at q
  simp only[show Tryz.prog.cellsOf 2=1 by kernel_rfl]at q
  exact Cb Tryz.underlying2 q
 have key: ∀u∈l,O1 u:=by
  intro u hu
  obtain⟨j,hj,rfl⟩:=List.mem_iff_getElem.1 hu
  have hc: ∀j:Fin 31,∃x∈ [(0,3),(3,3),(6,1),(7,1),(8,3),(11,3),(14,3),(17,3),(20,1),(21,3),(24,1),(25,1),(26,1),(27,1),(28,1),(29,1),(30,1)],x.1<=j.1/\j.1<x.1+x.2:=by decide
  obtain⟨⟨o,k⟩,hm,h1,h2⟩:=hc ⟨j,by omega⟩
  exact piece o k hm _ (Pd hj h1 h2)
 obtain⟨zs,hz,rfl⟩:=Sf key
 have hzl:zs.length=31:=by simpa using hl
 refine⟨λi=>zs.getD i 0,λi=> ?_,?_⟩
 ·show Ai (zs.getD i 0)
  rw[List.getD_eq_getElem?_getD]
  cases hi:zs[i]? with
  |none=>show Ai 0;decide
  |some x=>exact hz x (List.mem_of_getElem? hi)
 have e:zs=(List.range 31).map (λi=>zs.getD i 0):=by
  apply List.ext_getElem (by simp[hzl])
  intro i h1 h2
  simp[List.getD_eq_getElem?_getD,List.getElem?_eq_getElem h1]
 rw[show(Value.agg (List.map (Value.int IntKind.i64) zs).toArray)=Value.agg (List.map (Value.int IntKind.i64) ((List.range 31).map (λi=>zs.getD i 0))).toArray from by rw[<-e]]
 rfl
end
def Us:Value->Int| .int _ x=>x|_=>0
section
variable {H:Type} {enc:TypeId×Value->H} {w:World} {base:Nat} {spare:Nat->Bool} {held:Bool} {r:Reach} {b0:Nat} {v:Value} {d:DataW H} {p:List MemPlace}
end
theorem K_{w:World}{L:List (String×DataW Unit)}(hL:laidMet Tryz.prog L w)(hm:("aneroid/atmos.table",Rows.laid_aneroid_atmos_table)∈L):GT w:=by
 obtain⟨g',t',cs,fuel,p,h1,h2,h3,h4⟩:=Ii hL hm
 have hg:Tryz.prog.globalNamed "aneroid/atmos.table" =some 0:=by kernel_rfl
 obtain rfl:=Option.some.inj (hg.symm.trans h1)
 obtain rfl:=Option.some.inj ((show(Tryz.prog.globals[0]?).map (·.type)=some 192 by kernel_rfl).symm.trans h2)
 have e:(Rows.laid_aneroid_atmos_table:DataW Unit)=Lib.tabData .i64 tabL:=rfl
 rw[e]at h4
 have k:=Lib.cells_of_tab Tryz.underlying192 Tryz.underlying2 el el h4
 have hcell:=World.var?_cell hg h3
 have hget: ∀i,cs[i]? =cs.toList[i]? := λi=>(Array.getElem?_toList ..).symm
 refine⟨?_,λi v hv=> ?_⟩
 ·exact World.block_lt_of_cell? w ⟨_,0,none⟩ ((hcell 0).trans (by rw[hget,k];rfl))
 rw[hcell i,hget,k];exact hv
theorem RT{w:World}(hg:GN w)(hl:GL w)(hgp:GP w)(hgt:GT w)(hgr:GR w):GA w:=⟨hg,hgp,hl,hgr,hgt⟩
end
section
open Go.RowKit
theorem cG(x:Int):ev x (AI 24)=BB x:=by have:=FB 24;unfold BB ev;rw[if_neg en]
set_option maxRecDepth 1000000 in
set_option maxHeartbeats 8000000 in
theorem bF(x:Int)(hx:Ai x)(w:World):Calls Tryz.prog 19 #[.int .i64 x] w (λe w'=>e=.returned (.int .i64 (BB x))/\Below w.heap.size w w'):=by
 exact(let B:Base:=(⟨w,λ_=>False⟩:Base);let R:Ending->World->Prop:=(λe w'=>e=.returned (.int .i64 (BB x))/\Below w.heap.size w w');AC (f:=19) (B:=B) (R:=R) (es:=[]) (c:=Tryz.f19.body.getD .skip) (tmps:=(Gn [vI x] 13))
  (.s [.c,.c,.v,.c,.c,.c,.v] (.big x (λA1 c2=>.big (AI 24) (λA4 c5=>.big (ev x (AI 24)) (λA7 c8=>.s [.call (.tuple #[vI (Ae (ev x (AI 24))),vI (CN (ev x (AI 24)))]),.v,.v,.v,.v,.v,.c,.c,.c,.v,.v,.c] (.ret []))))))
  el (Sx.refl w _) ExX.nil Tryz.func19 el el (Eq.mp el (aI (cb B [] [] [] [] x λW hS=>ZO x hx W) (λ(A1:Option Addr)(c2:Nat)=>hv (show nd x<=4 from(cW hx)) (λnA1=>let gs3:BN:=[(A1,c2,x)];aI (cb B [] gs3 [] [] (AI 24) λW hS=>Yq 24 eo W) (λ(A4:Option Addr)(c5:Nat)=>hv (show nd (AI 24)<=2 from(by rw[Y9];decide)) (λnA4=>let gs6:BN:=[(A1,c2,x),(A4,c5,AI 24)];aI (cb B [] gs6 [] [] (ev x (AI 24)) λW hS=>Z8 x (AI 24) _ _ _ _ (show AI 24≠0 by have:=FB 24;omega) (Nat.le_trans nA1 eo) (Nat.le_trans nA4 eo) W (hS.rb 0 rfl) (hS.rb 1 rfl)) (λ(A7:Option Addr)(c8:Nat)=>hv (show nd (ev x (AI 24))<=5 from(by have h1:=nA1;have h2:=cg x (show AI 24≠0 by have:=FB 24;omega);omega)) (λnA7=>let gs9:BN:=[(A1,c2,x),(A4,c5,AI 24),(A7,c8,ev x (AI 24))];aI (cv B [] gs9 [] [] λW hS=>cJ (ev x (AI 24)) _ _ (Nat.le_trans nA7 eo) W (hS.rb 2 rfl)) (aI trivial ((show AO B R [] gs9 [] [] (vI (Ae (ev x (AI 24))))from by
     exactλW hS=>⟨by rw[cG,show Ae (BB x)=BB x from if_pos (Sq hx)],hS.bl⟩))))))))))))
end
section
open Go.RowKit
end
end Go.Proofs.YtikajapjkdloaaaGreatDoor
