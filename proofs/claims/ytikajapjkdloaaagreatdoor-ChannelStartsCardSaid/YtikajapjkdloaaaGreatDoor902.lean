/- The walk as one reckoning, first part: what an operation does to the call's own blocks, reckoned by the kernel; a region in any order, with a store at its end. -/
import Derived.OrdersHeld
import Derived.Scope
import Derived.Deep.MidRow
import Derived.Test.YtikajapjkdloaaaGreatDoor901
namespace Go.Proofs.YtikajapjkdloaaaGreatDoor
section
open Go.RowKit
def DJ(P:Program){α:Type}:Sem α->Option α
 | .pure a=>some a
 | .program k=>DJ P (k P)
 | .mark _ k=>DJ P k
 |_=>none
theorem BQ{P:Program}{α:Type}{W:World}(e:Sem α): ∀{x:α},DJ P e=some x->e.run P W=.ok x W:=by
 induction e with
 |pure a=>intro x h;simp only[DJ,Option.some.injEq]at h;rw[<-h];rfl
 |program k ih=>intro x h;simp only[DJ]at h;simp only[Sem.run];exact ih _ h
 |mark m k ih=>intro x h;simp only[DJ]at h;simp only[Sem.run];exact ih h
 |_=>intro x h;simp[DJ]at h
def D3:TypeDesc->Bool
 | .struct _| .array _ _=>true
 |_=>false
def Gx(P:Program)(b:Nat)(cs:List Value)(t:TypeId):Value->Option (Value×Prop)
 | .pointer (some ⟨bl,off,none⟩)=>
   match(P.underlying t).map D3,(P.info? t).map (·.size)with
   |some true,some n=>if off+n<=cs.length then some (.agg ((cs.drop off).take n).toArray,bl=b)else none
   |some false,some _=>(cs[off]?).map (·,bl=b)
   |_,_=>none
 |_=>none
theorem Cc{P:Program}{b:Nat}{cs:List Value}{t:TypeId}{a v:Value}{q:Prop}{W:World}(h:Gx P b cs t a=some (v,q))(hq:q)(hc: ∀i v,cs[i]? =some v->W.cell? ⟨b,i,none⟩=some v):
 (Instr.loadAt t a).run P W=.ok v W:=by
 unfold Gx at h
 split at h
 ·rename_i bl off
  show(loadVar t ⟨bl,off,none⟩).run P W=_
  split at h
  ·rename_i n hd hn
   split at h
   ·rename_i hle
    obtain⟨rfl,rfl⟩:=Prod.mk.inj (Option.some.inj h)
    obtain rfl:bl=b:=hq
    have hr:W.rangeAt bl off ((cs.drop off).take n):=by
     intro j u hu
     rw[List.getElem?_take]at hu
     split at hu
     ·rw[List.getElem?_drop]at hu;exact hc _ _ hu
     cases hu
    have hlen:((cs.drop off).take n).length=n:=by rw[List.length_take,List.length_drop];omega
    cases hu:P.underlying t with
    |none=>rw[hu]at hd;cases hd
    |some d=>
     rw[hu]at hd
     have h1:D3 d=true:=Option.some.inj hd
     cases d with
     |struct f=>exact run_loadVar_mid W bl off t _ _ hr hu rfl (by rw[hn,hlen])
     |array m e=>exact run_loadVar_mid W bl off t _ _ hr hu rfl (by rw[hn,hlen])
     |_=>cases h1
   cases h
  ·rename_i hd hn
   obtain⟨v',hv',h2⟩:=Option.map_eq_some_iff.1 h
   obtain⟨rfl,rfl⟩:=Prod.mk.inj h2
   obtain rfl:bl=b:=hq
   have hcell:=hc _ _ hv'
   cases hu:P.underlying t with
   |none=>rw[hu]at hd;cases hd
   |some d=>
    rw[hu]at hd
    have h1:D3 d=false:=Option.some.inj hd
    have hagg:(isAgg t).run P W=.ok false W:=by
     unfold isAgg
     rw[Sem.run_bind,run_underlying hu]
     cases d<;>first|rfl|cases h1
    unfold loadVar
    rw[Sem.run_bind,hagg]
    show(load ⟨bl,off,none⟩).run P W=_
    rw[run_load,hcell]
  cases h
 cases h
/-! ## A store into one of the call's own blocks -/
def DG(P:Program)(b:Nat)(dz:Bool){α:Type}:Sem α->List Value->Prop->Option (α×List Value×Prop)
 | .pure a,cs,p=>some (a,cs,p)
 | .load _ ⟨bl,o,none⟩ k,cs,p=>
   match cs[o]? with
   |some v=>DG P b dz (k v) cs (bl=b/\p)
   |none=>none
 | .store _ ⟨bl,o,none⟩ v k,cs,p=>
   match v.oneCell',cs with
   |true,c0::cr=>if(dz||CI c0)&&decide (o<(c0::cr).length)then DG P b dz k ((c0::cr).set o v) (bl=b/\p)else none
   |_,_=>none
 | .program k,cs,p=>DG P b dz (k P) cs p
 | .mark _ k,cs,p=>DG P b dz k cs p
 |_,_,_=>none
theorem Hi{P:Program}{b:Nat}{dz:Bool}{α:Type}(e:Sem α): ∀{cs cs':List Value}{p q:Prop}{x:α},DG P b dz e cs p=some (x,cs',q)->q->p:=by
 induction e with
 |pure a=>intro cs cs' p q x h hq;simp only[DG,Option.some.injEq,Prod.mk.injEq]at h;exact h.2.2▸hq
 |load m a k ih=>
  intro cs cs' p q x h hq
  obtain⟨bl,o,sp⟩:=a
  cases sp with
  |some _=>simp[DG]at h
  |none=>
   simp only[DG]at h
   split at h
   ·exact(ih _ h hq).2
   cases h
 |store m a v k ih=>
  intro cs cs' p q x h hq
  obtain⟨bl,o,sp⟩:=a
  cases sp with
  |some _=>simp[DG]at h
  |none=>
   simp only[DG]at h
   split at h
   ·split at h
    ·exact(ih h hq).2
    cases h
   cases h
 |program k ih=>intro cs cs' p q x h hq;simp only[DG]at h;exact ih _ h hq
 |mark m k ih=>intro cs cs' p q x h hq;simp only[DG]at h;exact ih h hq
 |_=>intro cs cs' p q x h;simp[DG]at h
theorem IH{P:Program}{α:Type}{m:Mode}{a:Addr}{v:Value}{k:Sem α}{W:World}{c:Value}(h1:v.oneCell'=true)(hc:W.cell? a=some c)(hf:W.frozen? a=false):
 (Sem.store m a v k).run P W=k.run P (W.setCell a v):=by
 cases v<;>simp_all[Sem.run,Value.oneCell']
theorem NZ{P:Program}{b:Nat}{dz:Bool}{α:Type}{w0:World}{gs:BN}(hdz:dz=true->gs=[])(e:Sem α): ∀{W:World}{bs:AD}{k:Nat}{cs cs':List Value}{p q:Prop}{x:α},
 DG P b dz e cs p=some (x,cs',q)->q->St w0 W bs gs->bs[k]? =some (b,cs)-> ∃W',e.run P W=.ok x W'/\St w0 W' (bs.set k (b,cs')) gs:=by
 induction e with
 |pure a=>
  intro W bs k cs cs' p q x h _ hS hk
  simp only[DG,Option.some.injEq,Prod.mk.injEq]at h
  obtain⟨rfl,rfl,_⟩:=h
  refine⟨W,rfl,?_⟩
  obtain⟨hkl,hv⟩:=List.getElem?_eq_some_iff.1 hk
  rw[<-hv,List.set_getElem_self hkl]
  exact hS
 |load m a kk ih=>
  intro W bs k cs cs' p q x h hq hS hk
  obtain⟨bl,o,sp⟩:=a
  cases sp with
  |some _=>simp[DG]at h
  |none=>
   simp only[DG]at h
   split at h
   ·rename_i v hv
    obtain rfl:=(Hi _ h hq).1
    have hc:=(hS.2.1 _ (List.mem_of_getElem? hk)).2.2.2 o v hv
    simp only[Sem.run,hc]
    exact ih _ h hq hS hk
   cases h
 |store m a v kk ih=>
  intro W bs k cs cs' p q x h hq hS hk
  obtain⟨bl,o,sp⟩:=a
  cases sp with
  |some _=>simp[DG]at h
  |none=>
   simp only[DG]at h
   split at h
   ·rename_i c0 cr h1
    split at h
    ·rename_i hcond
     simp only[Bool.and_eq_true,Bool.or_eq_true,decide_eq_true_eq]at hcond
     obtain rfl:=(Hi _ h hq).1
     obtain⟨_,_,hfz,hcs⟩:=hS.2.1 _ (List.mem_of_getElem? hk)
     have hc:=hcs o _ (List.getElem?_eq_getElem hcond.2)
     rw[IH h1 hc (hfz o)]
     have hS':=St.set hS k o hk hcond.2 (hcond.1.imp hdz id) v
     have hkl:k<bs.length:=(List.getElem?_eq_some_iff.1 hk).1
     obtain⟨W',hr,hS2⟩:=ih h hq hS' (by rw[List.getElem?_set,if_pos rfl,if_pos hkl])
     exact⟨W',hr,by rw[List.set_set]at hS2;exact hS2⟩
    cases h
   cases h
 |program kk ih=>intro W bs k cs cs' p q x h hq hS hk;simp only[DG]at h;simp only[Sem.run];exact ih _ h hq hS hk
 |mark m kk ih=>intro W bs k cs cs' p q x h hq hS hk;simp only[DG]at h;simp only[Sem.run];exact ih h hq hS hk
 |_=>intro W bs k cs cs' p q x h;simp[DG]at h
/-! ## An operation that makes one block -/
def Ie(P:Program){α:Type}:Sem α->Option (List Value×TypeId×(Nat->Option α))
 | .new (.cells c t (0,0)) k=>some (c.toList,t,λr=>DJ P (k r))
 | .program k=>Ie P (k P)
 | .mark _ k=>Ie P k
 |_=>none
theorem GV{P:Program}{α:Type}{W:World}(e:Sem α): ∀{cs:List Value}{t:TypeId}{kk:Nat->Option α}{x:α},Ie P e=some (cs,t,kk)->kk W.heap.size=some x->
 e.run P W=.ok x (W.alloc (.cells cs.toArray t)):=by
 induction e with
 |new o k ih=>
  intro cs t kk x h hk
  match o,h with
  | .cells c t' (0,0),h=>
    simp only[Ie,Option.some.injEq,Prod.mk.injEq]at h
    obtain⟨rfl,rfl,rfl⟩:=h
    have:=BQ (W:=W.alloc (.cells c t')) _ hk
    simp only[Sem.run,Array.toArray_toList]
    exact this
 |program k ih=>intro cs t kk x h hk;simp only[Ie]at h;simp only[Sem.run];exact ih _ h hk
 |mark m k ih=>intro cs t kk x h hk;simp only[Ie]at h;simp only[Sem.run];exact ih h hk
 |_=>intro cs t kk x h;simp[Ie]at h
theorem St.end{w0 W:World}{x:Nat×List Value}{bs:AD}{gs:BN}(h:St w0 W (x::bs) gs):St w0 W (bs++[x]) gs:=
 ⟨h.1,λy hy=>h.2.1 y (by simp only[List.mem_append,List.mem_singleton]at hy;simp only[List.mem_cons];exact hy.symm),by
  have:=h.2.2.1
  rw[List.map_append,List.map_cons,List.map_nil]
  exact(List.perm_append_singleton _ _).nodup_iff.2 this,h.2.2.2⟩
theorem St.layEnd{w0 W:World}{bs:AD}{gs:BN}(h:St w0 W bs gs)(vs:List Value)(t:TypeId):St w0 (W.alloc (.cells vs.toArray t)) (bs++[(W.heap.size,vs)]) gs:=(h.lay vs t).end
theorem St.bigEnd{w0 W:World}{bs:AD}{gs:BN}(h:St w0 W bs gs){A:Option Addr}{c:Nat}{z:Int}(hr:RB W A c z):St w0 W bs (gs++[(A,c,z)]):=
 ⟨h.1,h.2.1,h.2.2.1,λg hg=>by
  rcases List.mem_append.1 hg with hg|hg
  ·exact h.2.2.2 g hg
  rw[List.mem_singleton.1 hg];exact hr⟩
/-! ## A region in any order, the last operation free to write what was looked at -/
section
variable {P:Program} {ops:Array Oper} {Q:Exit->Act->World->Prop} {S:World->Prop}
def Qd(ops:Array Oper)(y x:Nat):Bool:=((ops[y]?).map λo=>o.after.any λe=>Region.binds .any e&&e.on==x).getD false
def DI(o:Oper):Bool:=
 match o.op with
 | .load .. =>true
 |_=>false
def back(ops:Array Oper):List Nat->Array Bool->Array Bool
 | [],r=>r
 |y::ys,r=>back ops ys (if r.getD y false then((ops[y]?).map λo=>o.after.toList.foldl (λs e=>if Region.binds .any e then s.setIfInBounds e.on true else s) r).getD r else r)
def Ud(ops:Array Oper)(j:Nat):Array Bool:=back ops (List.range (j+1)).reverse ((Array.replicate ops.size false).setIfInBounds j true)
def Bv(ops:Array Oper)(j:Nat):Bool:=
 let r:=Ud ops j
 (List.range ops.size).all λx=>x==j||r.getD x false||Qd ops x j|| !((ops[x]?).map DI).getD false
def closed(ops:Array Oper)(listed:Array Bool):Prop:=
 ∀y o,ops[y]? =some o->listed.getD y true=true-> ∀e∈o.after,Region.binds .any e=true->listed.getD e.on false=true
theorem VU{listed:Array Bool}{x:Nat}(h:listed.getD x true=false)(h':listed.getD x false=true):False:=by
 rcases Nat.lt_or_ge x listed.size with k|k
 ·simp[k]at h h';rw[h]at h';cases h'
 simp[Array.getElem?_eq_none k]at h
theorem NU{y x:Nat}(h:Qd ops y x=true): ∃o,ops[y]? =some o/\ ∃e∈o.after,Region.binds .any e=true/\e.on=x:=by
 unfold Qd at h
 cases ho:ops[y]? with
 |none=>rw[ho]at h;simp at h
 |some o=>
  rw[ho]at h
  simp only[Option.map_some,Option.getD_some]at h
  obtain⟨e,he,h4⟩:=Array.any_eq_true'.1 h
  simp only[Bool.and_eq_true,beq_iff_eq]at h4
  exact⟨o,rfl,e,he,h4.1,h4.2⟩
theorem To{listed:Array Bool}(hD:closed ops listed){j:Nat}(hj:j∈Region.ready .any ops listed): ∀(ys:List Nat)(r:Array Bool),(∀x,r.getD x false=true->x=j∨listed.getD x false=true)-> ∀x,(back ops ys r).getD x false=true->x=j∨listed.getD x false=true:=by
 obtain⟨_,oj,hoj,hall⟩:=mem_ready.1 hj
 intro ys
 induction ys with
 |nil=>intro r h;exact h
 |cons y ys ih=>
  intro r h
  refine ih _ ?_
  split
  ·rename_i hy
   cases ho:ops[y]? with
   |none=>exact h
   |some o=>
    simp only[Option.map_some,Option.getD_some]
    have hpre: ∀e∈o.after,Region.binds .any e=true->listed.getD e.on false=true:=by
     rcases h y hy with rfl|hl
     ·rw[hoj]at ho
      obtain rfl:=Option.some.inj ho
      exact hall
     intro e he hb
     refine hD y o ho ?_ e he hb
     rcases Nat.lt_or_ge y listed.size with k|k
     ·simp[k]at hl⊢;exact hl
     simp[Array.getElem?_eq_none k]at hl
    have key: ∀(l:List Edge)(s:Array Bool),(∀e∈l,Region.binds .any e=true->listed.getD e.on false=true)->(∀x,s.getD x false=true->x=j∨listed.getD x false=true)->
     ∀x,(l.foldl (λs e=>if Region.binds .any e then s.setIfInBounds e.on true else s) s).getD x false=true->x=j∨listed.getD x false=true:=by
     intro l
     induction l with
     |nil=>intro s _ hs;exact hs
     |cons e l ihl=>
      intro s hl hs
      simp only[List.foldl_cons]
      refine ihl _ (λe' he'=>hl e' (List.mem_cons_of_mem _ he')) ?_
      intro x hx
      split at hx
      ·rename_i hb
       by_cases hex:e.on=x
       ·subst hex;exact Or.inr (hl e (List.mem_cons_self ..) hb)
       rw[getD_set_ne false hex]at hx;exact hs x hx
      exact hs x hx
    exact key o.after.toList r (λe he=>hpre e (Array.mem_toList_iff.1 he)) h
  exact h
theorem GI{listed:Array Bool}(hD:closed ops listed){j i:Nat}(hs:Bv ops j=true)(hj:j∈Region.ready .any ops listed)(hi:i∈Region.ready .any ops listed){oi:Oper}(hoi:ops[i]? =some oi)(hl:DI oi=true):j=i:=by
 obtain⟨hiun,oi',hoi',hall⟩:=mem_ready.1 hi
 rw[hoi]at hoi'
 obtain rfl:=Option.some.inj hoi'
 have h1:=List.all_eq_true.1 hs i (List.mem_range.2 (Array.getElem?_eq_some_iff.1 hoi).1)
 simp only[Bool.or_eq_true,beq_iff_eq,hoi,Option.map_some,Option.getD_some,hl,Bool.not_true,Bool.false_eq_true,or_false]at h1
 rcases h1 with(h1|h1)|h1
 ·exact h1.symm
 ·have h2:=To hD hj _ _ (λx hx=> ?_) i h1
  ·rcases h2 with h2|h2
   ·exact h2.symm
   exact(VU hiun h2).elim
  by_cases e:j=x
  ·exact Or.inl e.symm
  rw[getD_set_ne false e]at hx
  rcases Nat.lt_or_ge x ops.size with k|k
  ·simp[k]at hx
  simp[k]at hx
 obtain⟨o,ho,e,he,hb,hon⟩:=NU h1
 rw[hoi]at ho
 obtain rfl:=Option.some.inj ho
 have:=hall e he hb
 rw[hon]at this
 exact(VU (mem_ready.1 hj).1 this).elim
theorem Bs{listed:Array Bool}(hD:closed ops listed){i:Nat}(hi:i∈Region.ready .any ops listed):closed ops (listed.setIfInBounds i true):=by
 intro y o hy hl e he hb
 by_cases h:i=y
 ·subst h
  obtain⟨_,oi,hoi,hall⟩:=mem_ready.1 hi
  rw[hoi]at hy
  obtain rfl:=Option.some.inj hy
  exact getD_set_true (hall e he hb)
 rw[getD_set_ne true h]at hl
 exact getD_set_true (hD y o hy hl e he hb)
theorem Hc:closed ops (Array.replicate ops.size false):=by
 intro y o hy hl
 have hlt:y<ops.size:=(Array.getElem?_eq_some_iff.1 hy).1
 simp[hlt]at hl
def DH(P:Program)(ops:Array Oper)(Q:Exit->Act->World->Prop):Nat->(World->Prop)->Array Bool->Act->World->Prop
 |0,_,listed,a,w=>Region.ready .any ops listed=[]/\Q .normal a w
 |fuel+1,S,listed,a,w=>
  (Region.ready .any ops listed=[]->Q .normal a w)/\
  ∀i∈Region.ready .any ops listed,wpOp P ops Q i (λa' w'=> ∃S':World->Prop,(Bv ops i=false->S'=S)/\S' w'/\DH P ops Q fuel S' (listed.setIfInBounds i true) a' w') a w
theorem JF: ∀(fuel:Nat)(S:World->Prop)(listed:Array Bool)(a:Act)(w:World),DH P ops Q fuel S listed a w->wpAny P .any ops Q fuel listed a w
 |0,_,_,_,_,h=>h
 |fuel+1,_,_,_,_,h=>⟨h.1,λi hi=>wpOp_mono (λa' w'⟨S',_,_,h'⟩=>JF fuel S' _ a' w' h') (h.2 i hi)⟩
theorem Lc{i:Nat}{oi:Oper}{v:Value}(hi:ops[i]? =some oi)(hload:DI oi=true)(hsel: ∀(j:Nat)(o:Oper) cs b,ops[j]? =some o->o.op≠ .select cs b)
 (hQ: ∀c a w,Q (.panic c) (a.put oi.dst v) w->Q (.panic c) a w):
 ∀(fuel:Nat)(listed:Array Bool)(a:Act)(w:World),closed ops listed->
  (∀j oj,ops[j]? =some oj->j≠i->listed.getD j true=false->(∀e∈oj.after,Region.binds .any e=true->e.on≠i)->oi.apart ops oj=true)->
  i∈Region.ready .any ops listed->YieldsIf P ops S oi v a->S w->
  DH P ops Q fuel S (listed.setIfInBounds i true) (a.put oi.dst v) w->DH P ops Q (fuel+1) S listed a w:=by
 intro fuel
 induction fuel with
 |zero=>
  intro listed a w _ _ hr hy hS H
  refine⟨λh=>(by rw[h]at hr;cases hr),λj hj=> ?_⟩
  by_cases hji:j=i
  ·subst hji;exact hy.wpOp hi hS ⟨S,λ_=>rfl,hS,H⟩
  have:=ready_mono hj hji
  rw[H.1]at this
  cases this
 |succ fuel ih=>
  intro listed a w hD hfree hr hy hS H
  refine⟨λh=>(by rw[h]at hr;cases hr),λj hj=> ?_⟩
  by_cases hji:j=i
  ·subst hji;exact hy.wpOp hi hS ⟨S,λ_=>rfl,hS,H⟩
  have hsk:Bv ops j=false:=by
   cases hs:Bv ops j with
   |false=>rfl
   |true=>exact absurd (GI hD hs hj hr hi hload) hji
  have h1:=H.2 j (ready_mono hj hji)
  obtain⟨hjun,oj,hoj,hall⟩:=mem_ready.1 hj
  have hnot: ∀e∈oj.after,Region.binds .any e=true->e.on≠i:= λe he hb heq=>by
   have h1:=hall e he hb
   have h0:=(mem_ready.1 hr).1
   rw[heq]at h1
   rcases Nat.lt_or_ge i listed.size with h'|h'
   ·simp[h']at h0 h1;rw[h0]at h1;cases h1
   simp[Array.getElem?_eq_none h']at h1
  have h2:=wpOp_putIf hoj (hfree j oj hoj hji hjun hnot) (λcs b=>hsel i oi cs b hi) (λcs b=>hsel j oj cs b hoj) hQ hy h1
  have hfree': ∀k ok,ops[k]? =some ok->k≠i->(listed.setIfInBounds j true).getD k true=false->
   (∀e∈ok.after,Region.binds .any e=true->e.on≠i)->oi.apart ops ok=true:= λk ok hk hki hun hno=>by
   refine hfree k ok hk hki ?_ hno
   by_cases hjk:j=k
   ·subst hjk;exact hjun
   rw[getD_set_ne true hjk]at hun;exact hun
  refine wpOp_mono ?_ h2
  rintro a' w' ⟨h3,S',hS',h4,h5⟩
  obtain rfl:=hS' hsk
  refine⟨S',λ_=>rfl,h4,ih (listed.setIfInBounds j true) a' w' (Bs hD hj) hfree' (ready_mono hr (Ne.symm hji)) h3 h4 ?_⟩
  rw[Array.setIfInBounds_comm _ _ hji]
  exact h5
theorem J5{i:Nat}{oi:Oper}{v:Value}(hi:ops[i]? =some oi)(hsel: ∀(j:Nat)(o:Oper) cs b,ops[j]? =some o->o.op≠ .select cs b)
 (hQ: ∀c a w,Q (.panic c) (a.put oi.dst v) w->Q (.panic c) a w):
 ∀(fuel:Nat)(S:World->Prop)(listed:Array Bool)(a:Act)(w:World),closed ops listed->
  (∀j oj,ops[j]? =some oj->j≠i->listed.getD j true=false->(∀e∈oj.after,Region.binds .any e=true->e.on≠i)->oi.apart ops oj=true)->
  i∈Region.ready .any ops listed->Yields P ops oi v a->S w->
  DH P ops Q fuel S (listed.setIfInBounds i true) (a.put oi.dst v) w->DH P ops Q (fuel+1) S listed a w:=by
 intro fuel
 induction fuel with
 |zero=>
  intro S listed a w _ _ hr hy hS H
  refine⟨λh=>(by rw[h]at hr;cases hr),λj hj=> ?_⟩
  by_cases hji:j=i
  ·subst hji;exact hy.wpOp hi ⟨S,λ_=>rfl,hS,H⟩
  have:=ready_mono hj hji
  rw[H.1]at this
  cases this
 |succ fuel ih=>
  intro S listed a w hD hfree hr hy hS H
  refine⟨λh=>(by rw[h]at hr;cases hr),λj hj=> ?_⟩
  by_cases hji:j=i
  ·subst hji;exact hy.wpOp hi ⟨S,λ_=>rfl,hS,H⟩
  have h1:=H.2 j (ready_mono hj hji)
  obtain⟨hjun,oj,hoj,hall⟩:=mem_ready.1 hj
  have hnot: ∀e∈oj.after,Region.binds .any e=true->e.on≠i:= λe he hb heq=>by
   have h1:=hall e he hb
   have h0:=(mem_ready.1 hr).1
   rw[heq]at h1
   exact VU h0 h1
  have h2:=wpOp_put hoj (hfree j oj hoj hji hjun hnot) (λcs b=>hsel i oi cs b hi) (λcs b=>hsel j oj cs b hoj) hQ hy h1
  have hfree': ∀k ok,ops[k]? =some ok->k≠i->(listed.setIfInBounds j true).getD k true=false->
   (∀e∈ok.after,Region.binds .any e=true->e.on≠i)->oi.apart ops ok=true:= λk ok hk hki hun hno=>by
   refine hfree k ok hk hki ?_ hno
   by_cases hjk:j=k
   ·subst hjk;exact hjun
   rw[getD_set_ne true hjk]at hun;exact hun
  refine wpOp_mono ?_ h2
  rintro a' w' ⟨h3,S',hS',h4,h5⟩
  refine⟨S',hS',h4,ih S' (listed.setIfInBounds j true) a' w' (Bs hD hj) hfree' (ready_mono hr (Ne.symm hji)) h3 h4 ?_⟩
  rw[Array.setIfInBounds_comm _ _ hji]
  exact h5
theorem LI{i:Nat}{oi:Oper}{v:Value}{fuel:Nat}{listed:Array Bool}{a:Act}{w:World}(hD:closed ops listed)(hi:ops[i]? =some oi)
 (hs:Region.noSelect ops=true)(hf:Region.free .any ops listed i=true)(hr:i∈Region.ready .any ops listed)
 (hQ: ∀c a w,Q (.panic c) (a.put oi.dst v) w->Q (.panic c) a w)(hy:Yields P ops oi v a)(hS:S w)
 (h:DH P ops Q fuel S (listed.setIfInBounds i true) (a.put oi.dst v) w):DH P ops Q (fuel+1) S listed a w:=
 J5 hi (Region.noSelect_spec hs) hQ fuel S listed a w hD (Region.free_spec hi hf) hr hy hS h
theorem Mr{i:Nat}{oi:Oper}{v:Value}{fuel:Nat}{listed:Array Bool}{a:Act}{w:World}(hD:closed ops listed)(hi:ops[i]? =some oi)(hload:DI oi=true)
 (hs:Region.noSelect ops=true)(hf:Region.free .any ops listed i=true)(hr:i∈Region.ready .any ops listed)
 (hQ: ∀c a w,Q (.panic c) (a.put oi.dst v) w->Q (.panic c) a w)(hy:YieldsIf P ops S oi v a)(hS:S w)
 (h:DH P ops Q fuel S (listed.setIfInBounds i true) (a.put oi.dst v) w):DH P ops Q (fuel+1) S listed a w:=
 Lc hi hload (Region.noSelect_spec hs) hQ fuel listed a w hD (Region.free_spec hi hf) hr hy hS h
theorem NI{i:Nat}{fuel:Nat}{listed:Array Bool}{a:Act}{w:World}(hr:Region.ready .any ops listed=[i])
 (h:wpOp P ops Q i (λa' w'=> ∃S':World->Prop,(Bv ops i=false->S'=S)/\S' w'/\DH P ops Q fuel S' (listed.setIfInBounds i true) a' w') a w):DH P ops Q (fuel+1) S listed a w:=
 ⟨λh0=>(by rw[hr]at h0;cases h0),λj hj=>(by rw[hr,List.mem_singleton]at hj;subst hj;exact h)⟩
theorem Fi{listed:Array Bool}{a:Act}{w:World}(hr:Region.ready .any ops listed=[])(h:Q .normal a w): ∀fuel,DH P ops Q fuel S listed a w
 |0=>⟨hr,h⟩
 |_+1=>⟨λ_=>h,by rw[hr];simp⟩
theorem NB{id:Nat}{a:Act}{w:World}(hm:P.follows .mixedOrders=true)
 (h:DH P ops Q ops.size S (Array.replicate ops.size false) a w.drew):(Code.region id ops true).wp P Q a w:=
 wp_region_any hm (JF _ _ _ _ _ h)
end
end
section
open Go.RowKit
/-! ## The function under way, at a list of things to do -/
def At(P:Program)(f:FuncId)(R:Ending->World->Prop)(k:List Item)(a:Act)(w:World):Prop:=
 ∀(b:Frame)(cs:List Frame),b.fn=f->b.kind=.normal-> ∃e w' fr,R e w'/\Comes P (lone (b.at a k) cs w) (lone fr cs w') e/\fr.fn=f/\fr.leaving P w' e
section
variable {P:Program} {f:FuncId} {R:Ending->World->Prop} {k:List Item} {a:Act} {w:World}
theorem At.step{k':List Item}(h: ∀(b:Frame)(cs:List Frame),step P (lone (b.at a k) cs w)=.next (lone (b.at a k') cs w))(h':At P f R k' a w):At P f R k a w:=by
 intro b cs hf hk
 obtain⟨e,w',fr,hR,hc,hl⟩:=h' b cs hf hk
 exact⟨e,w',fr,hR,hc.of_steps (.one (h b cs)),hl⟩
def QK(P:Program)(f:FuncId)(R:Ending->World->Prop)(k:List Item):Exit->Act->World->Prop:= λe a w=>e=.normal/\At P f R k a w
theorem At.leaf{c:Code}(h:c.wp P (QK P f R k) a w):At P f R (.code c::k) a w:=by
 intro b cs hf hk
 obtain⟨e,a',w',⟨rfl,hA⟩,harr⟩:=h b k cs
 obtain⟨e,w'',fr,hR,hc,hl⟩:=hA b cs hf hk
 exact⟨e,w'',fr,hR,hc.of_steps harr,hl⟩
theorem At.ops{ops:Array Oper}{l:List Nat}(h:wpOps P ops (QK P f R k) l a w):At P f R (.inRegion ops l::k) a w:=by
 intro b cs hf hk
 obtain⟨e,a',w',⟨rfl,hA⟩,harr⟩:=wp_ops l a w h b k cs
 obtain⟨e,w'',fr,hR,hc,hl⟩:=hA b cs hf hk
 exact⟨e,w'',fr,hR,hc.of_steps harr,hl⟩
theorem At.ret{fn:Func}{v:Value}(hf:P.funcs[f]? =some fn)(hd:a.defers=[])(hr:(results fn a.tmps).run P w=.ok v w)(hR:R (.returned v) w):At P f R (.code .ret::k) a w:=by
 intro b cs hb hk
 exact⟨.returned v,w,_,hR,.one step_ret,hb,rfl,hd,hk,fn,by rw[<-hf,<-hb];rfl,hr⟩
theorem At.end{fn:Func}{v:Value}(hf:P.funcs[f]? =some fn)(hd:a.defers=[])(hr:(results fn a.tmps).run P w=.ok v w)(hR:R (.returned v) w):At P f R [] a w:=by
 intro b cs hb hk
 exact⟨.returned v,w,_,hR,.one step_end,hb,rfl,hd,hk,fn,by rw[<-hf,<-hb];rfl,hr⟩
theorem Mm{fn:Func}{c:Code}{args:Array Value}(hf:P.funcs[f]? =some fn)(hb:fn.body=some c)
 (h:At P f R [.code c] {tmps:=args++Array.replicate (fn.ntmps-args.size) undef,defers:=[]} w):Calls P f args w R:=by
 intro cs
 let b:Frame:={(default:Frame)with fn:=f,kind:=.normal}
 have henter:Frame.enter P f args .normal=b.at {tmps:=args++Array.replicate (fn.ntmps-args.size) undef,defers:=[]} [.code c]:=by
  simp[Frame.enter,Frame.at,hf,hb,b]
 obtain⟨e,w',fr,hR,hc,hl⟩:=h b cs rfl rfl
 rw[<-henter]at hc
 exact⟨e,w',fr,hR,hc,hl⟩
theorem At.mono{R':Ending->World->Prop}(h:At P f R k a w)(hr: ∀e w',R e w'->R' e w'):At P f R' k a w:=
 λb cs hf hk=>let⟨e,w',fr,hR,rest⟩:=h b cs hf hk;⟨e,w',fr,hr _ _ hR,rest⟩
theorem At.loop{c:Code}(I:Act->World->Prop)(μ:Act->World->Nat)(h₀:I a w)
 (round: ∀a w,I a w->(∀a' w',I a' w'->μ a' w'<μ a w->At P f R (.inLoop c::k) a' w')->At P f R (.code c::.inLoop c::k) a w):At P f R (.code (.loop c)::k) a w:=by
 have key: ∀n a w,μ a w=n->I a w->At P f R (.code c::.inLoop c::k) a w:=by
  intro n
  induction n using Nat.strongRecOn with
  |_ n ih=>
   intro a w hn hI
   exact round a w hI λa' w' hI' hlt=>At.step (λb cs=>step_inLoop) (ih (μ a' w') (hn▸hlt) a' w' rfl hI')
 exact At.step (λb cs=>step_loop) (key _ a w rfl h₀)
end
/-! ## The state of a walk, and its plan -/
inductive Md where
 |ctl
 |ord (ops:Array Oper) (rest:List Nat)
 |drw (fuel:Nat) (ops:Array Oper) (listed:Array Bool) (cur:Option (Nat×Bool)) (sb:AD)
structure KS where
 todo:List Item
 tmps:Array Value
 bs:AD
 gs:BN
 md:Md
inductive Ins where
 |c
 |d (X:List Nat)
 |at(i:Nat) (sole:Bool)
 |setv (s:Nat) (v:Value)
 |setc (k i:Nat) (v:Value)
 |v
 |u
 |own (k:Nat)
 |ext (k:Nat)
 |put (k:Nat)
 |call (v:Value)
 |eq (b:Bool)
 |fact (v:Value)
def Ins.inReg:Ins->Bool
 | .c=>false
 | .d _=>false
 |_=>true
inductive ROrc where
 |done
 |s (l:List Ins) (o:ROrc)
 |split(s:Nat) (t e:ROrc)
 |new (k:Nat->ROrc)
 |big (z:Int) (k:Option Addr->Nat->ROrc)
 |fork (i j:Nat) (a b:ROrc)
inductive Orc where
 |fin
 |s (l:List Ins) (o:Orc)
 |split(s:Nat) (t e:Orc)
 |gen (s:Nat) (k:Int->Orc)
 |new (k:Nat->Orc)
 |big (z:Int) (k:Option Addr->Nat->Orc)
 |meet (S:(Nat->Nat)->(Nat->Option Addr×Nat)->Array Value×AD×BN) (t:ROrc) (o:(Nat->Nat)->(Nat->Option Addr×Nat)->Orc)
 |loop (I:Nat->(Nat->Int)->Prop) (μ:Nat->(Nat->Int)->Nat) (S:Nat->(Nat->Int)->(Nat->Value)->(Nat->Option Addr×Nat)->Array Value×AD×BN)
  (o:Nat->(Nat->Int)->(Nat->Value)->(Nat->Option Addr×Nat)->Orc)
 |cut (T:List Item) (I:(Nat->Int)->Prop) (S:(Nat->Int)->(Nat->Value)->(Nat->Option Addr×Nat)->Array Value×AD×BN) (t:Orc)
  (o:(Nat->Int)->(Nat->Value)->(Nat->Option Addr×Nat)->Orc)
 |again (d:Nat)
 |ret (ks:List Nat)
def ctl(tmps:Array Value):List Item->Option (List Item×Md)
 | .code .skip::k=>some (k,.ctl)
 | .code (.label _)::k=>some (k,.ctl)
 | .inBlock _::k=>some (k,.ctl)
 | .inScope _::k=>some (k,.ctl)
 | .code (.seq a b)::k=>some (.code a::.code b::k,.ctl)
 | .code (.cond c x y)::k=>match Act.eval ⟨tmps,[]⟩ c with
   | .bool true=>some (.code x::k,.ctl)
   | .bool false=>some (.code y::k,.ctl)
   |_=>none
 | .code (.block id c)::k=>some (.code c::.inBlock id::k,.ctl)
 | .code (.scope c)::k=>some (.code c::.inScope c::k,.ctl)
 | .code (.loop c)::k=>some (.code c::.inLoop c::k,.ctl)
 | .inLoop c::k=>some (.code c::.inLoop c::k,.ctl)
 | .code (.exit id)::k=>(exitTo id k).map (·,.ctl)
 | .code (.goto l)::k=>(gotoIn l k).map (·,.ctl)
 | .code (.region _ ops false)::k=>some (k,.ord ops (List.range ops.size))
 |_=>none
def Ax:Nat->List Bool->List Item->List Item
 |0,_,k=>k
 |n+1,b::bs,.code (.cond _ x y)::k=>Ax n bs (.code (if b then x else y)::k)
 |n+1,bs,.code (.region _ _ _)::k=>Ax n bs k
 |n+1,bs,k=>match ctl #[] k with
  |some (k',_)=>Ax n bs k'
  |none=>[]
def KS.now(s:KS):Option (Oper×Array Oper):=
 match s.md with
 | .ord ops (i::_)=>(ops[i]?).map (·,ops)
 | .drw (_+1) ops _ (some (i,_)) _=>(ops[i]?).map (·,ops)
 |_=>none
def KS.loud(s:KS):Bool:=
 match s.md with
 | .ord .. =>true
 | .drw _ _ _ (some (_,sole)) _=>sole
 |_=>false
def KS.may(s:KS)(k:Nat):Bool:=
 match s.md with
 | .ord .. =>true
 | .drw _ ops _ (some (i,true)) sb=>Bv ops i||(match sb[k]? with
   |none=>true
   |some (_,[])=>true
   |_=>false)
 |_=>false
def KS.next(s:KS):Md:=
 match s.md with
 | .ord ops (_::rest)=>.ord ops rest
 | .drw (n+1) ops listed (some (i,_)) sb=>.drw n ops (listed.setIfInBounds i true) none sb
 |m=>m
def KS.nextP(s:KS)(bs:AD):Md:=
 match s.md with
 | .ord ops (_::rest)=>.ord ops rest
 | .drw (n+1) ops listed (some (i,_)) sb=>.drw n ops (listed.setIfInBounds i true) none (if Bv ops i then bs else sb)
 |m=>m
def DM(tmps:Array Value)(dst:Option Tmp)(v:Value):Array Value:=
 match dst with
 |some d=>tmps.setIfInBounds d v
 |none=>tmps
def KS.adv(s:KS)(o:Oper)(v:Value):KS:=⟨s.todo,DM s.tmps o.dst v,s.bs,s.gs,s.next⟩
def KS.ev(s:KS):Operand->Value:=Act.eval ⟨s.tmps,[]⟩
def KS.blocks(s:KS):AD:=
 match s.md with
 | .drw _ _ _ (some (_,false)) sb=>sb
 |_=>s.bs
def Ex(w0:World)(es:AD):Prop:= ∀x∈es,x.1<w0.heap.size/\ ∀i v,x.2[i]? =some v->w0.cell? ⟨x.1,i,none⟩=some v
def GE(sb:AD)(W:World):Prop:= ∀x∈sb,∀i v,x.2[i]? =some v->W.cell? ⟨x.1,i,none⟩=some v
def Fm(X:List Nat):Nat->AD->AD
 |_,[]=>[]
 |i,x::r=>(if X.contains i then(x.1,[])else x)::Fm X (i+1) r
def DX(sb bs:AD):Prop:= ∀(j:Nat) x,sb[j]? =some x-> ∃y,bs[j]? =some y/\x.1=y.1/\(x.2=[]∨x.2=y.2)
def DD(sb es:AD)(W:World):Prop:=GE sb W/\GE es W
def NM(ops:Array Oper)(listed:Array Bool):Option (Nat×Bool)->Bool
 |none=>true
 |some (i,true)=>(Region.ready .any ops listed).contains i
 |some (i,false)=>(Region.ready .any ops listed).contains i&&Region.free .any ops listed i
section
variable (P:Program) (f:FuncId) (R:Ending->World->Prop) (w0:World) (es:AD)
def CallV(bs:AD)(gs:BN)(g:FuncId)(args:Array Value)(v:Value):Prop:=
 ∀W,St w0 W bs gs->Calls P g args W λe w'=>e=.returned v/\Below W.heap.size W w'
def Tv(bs:AD)(gs:BN)(g:FuncId)(args:Array Value)(z:Int):Prop:=
 ∀W,St w0 W bs gs->Calls P g args W λe w'=> ∃A c,e=.returned (.agg #[.bool (sg z),.slice A (nd z) c])/\RB w' A c z/\Below W.heap.size W w'
def Bh(bs:AD)(gs:BN)(v:Value):Prop:= ∀W,St w0 W bs gs->R (.returned v) W
def IJ(s:Sem Next)(v:Value):Prop:= ∀W,s.run P W=.ok (.value v) W
def Jv(t:TypeId)(x y:Value)(b:Bool):Prop:= ∀W,(Op.equalIn 10000 t x y).run P W=.ok b W
def AtM(s:KS):Prop:=
 match s.md with
 | .ctl=> ∀W,St w0 W s.bs s.gs->At P f R s.todo ⟨s.tmps,[]⟩ W
 | .ord ops rest=> ∀W,St w0 W s.bs s.gs->wpOps P ops (QK P f R s.todo) rest ⟨s.tmps,[]⟩ W
 | .drw n ops listed cur sb=>NM ops listed cur=true->Region.noSelect ops=true->closed ops listed->(Region.ready .any ops listed≠ []->DX sb s.bs)-> ∀W,St w0 W s.bs s.gs->
   match cur with
   |some (i,true)=> ∀m,n=m+1->wpOp P ops (QK P f R s.todo) i (λa' w'=> ∃S':World->Prop,(Bv ops i=false->S'=DD sb es)/\S' w'/\DH P ops (QK P f R s.todo) m S' (listed.setIfInBounds i true) a' w') ⟨s.tmps,[]⟩ W
   |_=>DH P ops (QK P f R s.todo) n (DD sb es) listed ⟨s.tmps,[]⟩ W
def Ew(bs:AD)(tmps:Array Value):List ResultVar->List Nat->Prop->Option (List Value×Prop)
 | [],_,p=>some ([],p)
 | .tmp t::r,ks,p=>(Ew bs tmps r ks p).map λx=>(tmps.getD t undef::x.1,x.2)
 | .cell a t::r,k::ks,p=>
   match bs[k]? with
   |some (b,cs)=>
    match Gx P b cs t (tmps.getD a undef)with
    |some (v,q)=>(Ew bs tmps r ks (q/\p)).map λx=>(v::x.1,x.2)
    |none=>none
   |none=>none
 |_,_,_=>none
def Hl:List Value->Value
 | [v]=>v
 |vs=>.tuple vs.toArray
def Dn(i:Ins)(s:KS)(K:KS->Prop):Prop:=
 match i with
 | .c=>
   match s.md with
   | .ctl=>match ctl s.tmps s.todo with
     |some (k,md)=>K ⟨k,s.tmps,s.bs,s.gs,md⟩
     |none=>False
   | .ord _ []=>K ⟨s.todo,s.tmps,s.bs,s.gs,.ctl⟩
   | .drw _ ops listed none _=>match Region.ready .any ops listed with
     | []=>K ⟨s.todo,s.tmps,s.bs,s.gs,.ctl⟩
     |_=>False
   |_=>False
 | .d X=>
   match s.md,s.todo with
   | .ctl,.code (.region _ ops true)::k=>match Region.noSelect ops with
     |true=>K ⟨k,s.tmps,s.bs,s.gs,.drw ops.size ops (Array.replicate ops.size false) none (Fm X 0 s.bs)⟩
     |false=>False
   |_,_=>False
 | .at i sole=>
   match s.md with
   | .drw (n+1) ops listed none sb=>
     match(if sole then decide (Region.ready .any ops listed=[i])else NM ops listed (some (i,false)))with
     |true=>K ⟨s.todo,s.tmps,s.bs,s.gs,.drw (n+1) ops listed (some (i,sole)) sb⟩
     |false=>False
   |_=>False
 | .setv sl v=>
   match s.tmps[sl]? with
   |some u=>u=v/\K ⟨s.todo,s.tmps.setIfInBounds sl v,s.bs,s.gs,s.md⟩
   |none=>False
 | .setc k i v=>
   match s.bs[k]? with
   |some (b,cs)=>match cs[i]? with
    |some u=>u=v/\K ⟨s.todo,s.tmps,s.bs.set k (b,cs.set i v),s.gs,s.md⟩
    |none=>False
   |none=>False
 | .v=>
   match s.now with
   |some (op,ops)=>match Region.wanted op (yielded ops s.tmps),DJ P (execOp s.ev op)with
    |true,some (.value v)=>K (s.adv op v)
    |_,_=>False
   |none=>False
 | .u=>
   match s.now with
   |some (op,ops)=>match Region.wanted op (yielded ops s.tmps)with
    |false=>K (s.adv op undef)
    |true=>False
   |none=>False
 | .own k=>
   match s.now with
   |some (op,ops)=>match Region.wanted op (yielded ops s.tmps),s.blocks[k]?,op.op with
    |true,some (b,cs),.load t x=>match Gx P b cs t (s.ev x)with
     |some (v,q)=>q/\K (s.adv op v)
     |none=>False
    |_,_,_=>False
   |none=>False
 | .ext k=>
   match s.now with
   |some (op,ops)=>match Region.wanted op (yielded ops s.tmps),es[k]?,op.op with
    |true,some (b,cs),.load t x=>match Gx P b cs t (s.ev x)with
     |some (v,q)=>q/\K (s.adv op v)
     |none=>False
    |_,_,_=>False
   |none=>False
 | .put k=>
   match s.now,s.may k with
   |some (op,ops),true=>match Region.wanted op (yielded ops s.tmps),s.bs[k]? with
    |true,some (b,cs)=>match DG P b s.gs.isEmpty (execOp s.ev op) cs True with
     |some (.skip,cs',q)=>q/\K ⟨s.todo,DM s.tmps op.dst undef,s.bs.set k (b,cs'),s.gs,s.nextP (s.bs.set k (b,cs'))⟩
     |_=>False
    |_,_=>False
   |_,_=>False
 | .call v=>
   match s.now,s.loud with
   |some (op,ops),true=>match Region.wanted op (yielded ops s.tmps),DJ P (execOp s.ev op)with
    |true,some (.enter g args)=>CallV P w0 s.bs s.gs g args v/\K (s.adv op v)
    |_,_=>False
   |_,_=>False
 | .eq b=>
   match s.now with
   |some (op,ops)=>match Region.wanted op (yielded ops s.tmps),op.op with
    |true,.binOp .eql t x y _=>match s.ev x,s.ev y,DJ P (eqGuard .eql t x y (s.ev x) (s.ev y))with
     | .agg xs,.agg ys,some _=>Jv P t (.agg xs) (.agg ys) b/\K (s.adv op (.bool b))
     |_,_,_=>False
    |true,.binOp .neq t x y _=>match s.ev x,s.ev y,DJ P (eqGuard .neq t x y (s.ev x) (s.ev y))with
     | .agg xs,.agg ys,some _=>Jv P t (.agg xs) (.agg ys) b/\K (s.adv op (.bool !b))
     |_,_,_=>False
    |_,_=>False
   |none=>False
 | .fact v=>
   match s.now with
   |some (op,ops)=>match Region.wanted op (yielded ops s.tmps)with
    |true=>IJ P (execOp s.ev op) v/\K (s.adv op v)
    |false=>False
   |none=>False
def Qg:List Ins->KS->(KS->Prop)->Prop
 | [],s,K=>K s
 |i::l,s,K=>Dn P w0 es i s λs'=>Qg l s' K
def Gm:ROrc->KS->(KS->Prop)->Prop
 | .done,s,K=>
   match s.md with
   | .drw _ ops listed none _=>match Region.ready .any ops listed with
     | []=>K s
     |_=>False
   |_=>False
 | .s l o,s,K=>
   match l.all Ins.inReg with
   |true=>Qg P w0 es l s λs'=>Gm o s' K
   |false=>False
 | .split sl t e,s,K=>
   match s.tmps[sl]? with
   |some (.bool B)=>(B=true->Gm t ⟨s.todo,s.tmps.setIfInBounds sl (.bool true),s.bs,s.gs,s.md⟩ K)/\(B=false->Gm e ⟨s.todo,s.tmps.setIfInBounds sl (.bool false),s.bs,s.gs,s.md⟩ K)
   |_=>False
 | .new k,s,K=>
   match s.now,s.loud with
   |some (op,ops),true=>match Region.wanted op (yielded ops s.tmps),Ie P (execOp s.ev op)with
    |true,some (cs,_,kk)=> ∀r,match kk r with
     |some (.value v)=>Gm (k r) ⟨s.todo,DM s.tmps op.dst v,s.bs++[(r,cs)],s.gs,s.next⟩ K
     |_=>False
    |_,_=>False
   |_,_=>False
 | .big z k,s,K=>
   match s.now,s.loud with
   |some (op,ops),true=>match Region.wanted op (yielded ops s.tmps),DJ P (execOp s.ev op)with
    |true,some (.enter g args)=>Tv P w0 s.bs s.gs g args z/\ ∀A c,Gm (k A c) ⟨s.todo,DM s.tmps op.dst (.agg #[.bool (sg z),.slice A (nd z) c]),s.bs,s.gs++[(A,c,z)],s.next⟩ K
    |_,_=>False
   |_,_=>False
 | .fork i j a b,s,K=>
   match s.md with
   | .drw (n+1) ops listed none sb=>match decide (Region.ready .any ops listed=[i,j])with
     |true=>Gm a ⟨s.todo,s.tmps,s.bs,s.gs,.drw (n+1) ops listed (some (i,true)) sb⟩ K/\Gm b ⟨s.todo,s.tmps,s.bs,s.gs,.drw (n+1) ops listed (some (j,true)) sb⟩ K
     |false=>False
   |_=>False
def SU(x:Array Value×AD×BN)(s:KS):Prop:=
 s.tmps=x.1/\(∃t,s.bs=x.2.1++t)/\x.2.2⊆s.gs
def Ez:Orc->List (KS->Prop)->KS->Prop
 | .fin,_,s=>AtM P f R w0 es s
 | .s l o,Ls,s=>Qg P w0 es l s (Ez o Ls)
 | .split sl t e,Ls,s=>
   match s.tmps[sl]? with
   |some (.bool B)=>(B=true->Ez t Ls ⟨s.todo,s.tmps.setIfInBounds sl (.bool true),s.bs,s.gs,s.md⟩)/\(B=false->Ez e Ls ⟨s.todo,s.tmps.setIfInBounds sl (.bool false),s.bs,s.gs,s.md⟩)
   |_=>False
 | .gen sl k,Ls,s=>
   match s.tmps[sl]? with
   |some (.int κ n)=> ∀x,x=n->Ez (k x) Ls ⟨s.todo,s.tmps.setIfInBounds sl (.int κ x),s.bs,s.gs,s.md⟩
   |_=>False
 | .new k,Ls,s=>
   match s.now,s.loud with
   |some (op,ops),true=>match Region.wanted op (yielded ops s.tmps),Ie P (execOp s.ev op)with
    |true,some (cs,_,kk)=> ∀r,match kk r with
     |some (.value v)=>Ez (k r) Ls ⟨s.todo,DM s.tmps op.dst v,s.bs++[(r,cs)],s.gs,s.next⟩
     |_=>False
    |_,_=>False
   |_,_=>False
 | .big z k,Ls,s=>
   match s.now,s.loud with
   |some (op,ops),true=>match Region.wanted op (yielded ops s.tmps),DJ P (execOp s.ev op)with
    |true,some (.enter g args)=>Tv P w0 s.bs s.gs g args z/\ ∀A c,Ez (k A c) Ls ⟨s.todo,DM s.tmps op.dst (.agg #[.bool (sg z),.slice A (nd z) c]),s.bs,s.gs++[(A,c,z)],s.next⟩
    |_,_=>False
   |_,_=>False
 | .meet S t o,Ls,s=>
   Gm P w0 es t s (λs'=> ∃ρ α,s'.tmps=(S ρ α).1/\s'.bs=(S ρ α).2.1/\s'.gs=(S ρ α).2.2)/\ ∀ρ α,Ez (o ρ α) Ls ⟨s.todo,(S ρ α).1,(S ρ α).2.1,(S ρ α).2.2,.ctl⟩
 | .loop I μ S o,Ls,s=>
   match s.md with
   | .ctl=>(∃k ξ u α,I k ξ/\SU (S k ξ u α) s)/\
    ∀k ξ u α,I k ξ->Ez (o k ξ u α) ((λs'=>match s'.md with
     | .ctl=>s'.todo=s.todo/\ ∃k' ξ' u' α',I k' ξ'/\μ k' ξ'<μ k ξ/\SU (S k' ξ' u' α') s'
     |_=>False)::Ls) ⟨s.todo,(S k ξ u α).1,(S k ξ u α).2.1,(S k ξ u α).2.2,.ctl⟩
   |_=>False
 | .cut T I S t o,Ls,s=>
   Ez t ((λs'=>match s'.md with
    | .ctl=>s'.todo=T/\ ∃ξ u α,I ξ/\SU (S ξ u α) s'
    |_=>False)::Ls) s/\ ∀ξ u α,I ξ->Ez (o ξ u α) Ls ⟨T,(S ξ u α).1,(S ξ u α).2.1,(S ξ u α).2.2,.ctl⟩
 | .again d,Ls,s=>
   match Ls[d]? with
   |some L=>L s
   |none=>False
 | .ret ks,_,s=>
   match s.md,P.funcs[f]? with
   | .ctl,some fn=>match s.todo with
     | .code .ret::_=>match Ew P s.bs s.tmps fn.results.toList ks True with
       |some (vs,q)=>q/\Bh R w0 s.bs s.gs (Hl vs)
       |none=>False
     | []=>match Ew P s.bs s.tmps fn.results.toList ks True with
       |some (vs,q)=>q/\Bh R w0 s.bs s.gs (Hl vs)
       |none=>False
     |_=>False
   |_,_=>False
end
end
section
open Go.RowKit
section
variable {P:Program} {f:FuncId} {R:Ending->World->Prop} {w0:World} {es:AD}
theorem D7{bs:AD}{gs:BN}{W:World}(h:St w0 W bs gs):GE bs W:= λx hx=>(h.2.1 x hx).2.2.2
theorem D5{bs:AD}{gs:BN}{W:World}(hE:Ex w0 es)(h:St w0 W bs gs):GE es W:= λx hx i v hv=>((Bz h.1).1 _ _ (hE x hx).1).trans ((hE x hx).2 i v hv)
def KS.pre(s:KS)(bs:AD):Prop:=
 match s.md with
 | .drw _ _ _ _ sb=>DX sb bs
 |_=>True
theorem Fd{sb bs:AD}{gs:BN}{W:World}(hE:Ex w0 es)(h:St w0 W bs gs)(hs:DX sb bs):DD sb es W:=by
 refine⟨λx hx i v hv=> ?_,D5 hE h⟩
 obtain⟨j,hj⟩:=List.mem_iff_getElem?.1 hx
 obtain⟨y,hy,h1,h2⟩:=hs j x hj
 rcases h2 with h2|h2
 ·rw[h2]at hv;simp at hv
 rw[h2]at hv;rw[h1];exact D7 h y (List.mem_of_getElem? hy) i v hv
theorem MG(bs:AD):DX bs bs:= λ_ x h=>⟨x,h,rfl,Or.inr rfl⟩
theorem Ko(X:List Nat): ∀(i:Nat)(bs:AD),DX (Fm X i bs) bs
 |_,[],j,x,h=>by simp[Fm]at h
 |i,b::bs,0,x,h=>by
  simp only[Fm,List.getElem?_cons_zero,Option.some.injEq]at h
  refine⟨b,rfl,?_⟩
  subst h
  split
  ·exact⟨rfl,Or.inl rfl⟩
  exact⟨rfl,Or.inr rfl⟩
 |i,b::bs,j+1,x,h=>by
  simp only[Fm,List.getElem?_cons_succ]at h
  obtain⟨y,hy,k⟩:=Ko X (i+1) bs j x h
  exact⟨y,by simpa using hy,k⟩
theorem Nf{sb bs t:AD}(h:DX sb bs):DX sb (bs++t):= λj x hx=>by
 obtain⟨y,hy,k⟩:=h j x hx
 exact⟨y,by rw[List.getElem?_append_left (List.getElem?_eq_some_iff.1 hy).1];exact hy,k⟩
theorem TR{sb bs:AD}{k b:Nat}{cs cs':List Value}(h:DX sb bs)(hb:bs[k]? =some (b,cs))(hk:sb[k]? =none∨ ∃c,sb[k]? =some (c,[])):DX sb (bs.set k (b,cs')):= λj x hx=>by
 obtain⟨y,hy,h1,h2⟩:=h j x hx
 by_cases e:k=j
 ·subst e
  rw[hb]at hy
  obtain rfl:=Option.some.inj hy
  rcases hk with hk|⟨c,hk⟩
  ·rw[hk]at hx;cases hx
  rw[hk]at hx
  obtain rfl:=Option.some.inj hx
  exact⟨(b,cs'),by rw[List.getElem?_set,if_pos rfl,if_pos (List.getElem?_eq_some_iff.1 hb).1],h1,Or.inl rfl⟩
 exact⟨y,by rw[List.getElem?_set,if_neg e];exact hy,h1,h2⟩
def KS.sees(w0:World)(es:AD)(s:KS)(W:World):Prop:=
 match s.md with
 | .drw _ _ _ (some (_,false)) sb=>DD sb es W
 |_=>St w0 W s.bs s.gs
theorem L5{s:KS}{W:World}(h:s.sees w0 es W):GE s.blocks W:=by
 obtain⟨todo,tmps,bs,gs,md⟩:=s
 cases md with
 |ctl=>exact D7 h
 |ord ops rest=>exact D7 h
 |drw n ops listed cur sb=>
  cases cur with
  |none=>exact D7 h
  |some c=>
   obtain⟨i,sole⟩:=c
   cases sole with
   |true=>exact D7 h
   |false=>exact h.1
theorem Th{s:KS}{W:World}(hE:Ex w0 es)(h:s.sees w0 es W):GE es W:=by
 obtain⟨todo,tmps,bs,gs,md⟩:=s
 cases md with
 |ctl=>exact D5 hE h
 |ord ops rest=>exact D5 hE h
 |drw n ops listed cur sb=>
  cases cur with
  |none=>exact D5 hE h
  |some c=>
   obtain⟨i,sole⟩:=c
   cases sole with
   |true=>exact D5 hE h
   |false=>exact h.2
theorem Mc{s:KS}{bs:AD}{x:Nat×List Value}(h:s.pre bs):s.pre (bs++[x]):=by
 obtain⟨todo,tmps,bs',gs,md⟩:=s
 cases md with
 |drw n ops listed cur sb=>exact Nf h
 |_=>trivial
theorem Es{ops:Array Oper}{Q:Exit->Act->World->Prop}{i:Nat}{o:Oper}{K:Act->World->Prop}{a:Act}{w:World}(ho:ops[i]? =some o)(hw:Region.wanted o (yielded ops a.tmps)=true)(h:o.wp P a w K Q):wpOp P ops Q i K a w:=by
 unfold wpOp;simp only[ho,hw,if_true];exact .inl h
theorem MM{ops:Array Oper}{Q:Exit->Act->World->Prop}{i:Nat}{o:Oper}{K:Act->World->Prop}{a:Act}{w:World}(ho:ops[i]? =some o)(hw:Region.wanted o (yielded ops a.tmps)=false)(h:K (a.put o.dst undef) w):wpOp P ops Q i K a w:=by
 unfold wpOp;simp only[ho,hw,Bool.false_eq_true,if_false];exact h
theorem EG(tmps:Array Value)(dst:Option Tmp)(v:Value):(Act.mk tmps []).put dst v=⟨DM tmps dst v,[]⟩:=by cases dst<;>rfl
theorem AtM.loud(hE:Ex w0 es){s:KS}{op:Oper}{ops:Array Oper}(hn:s.now=some (op,ops))(hl:s.loud=true)
 (h: ∀W,St w0 W s.bs s.gs->s.pre s.bs-> ∀i,ops[i]? =some op-> ∀K:Act->World->Prop,
  (∀tmps bs gs W',AtM P f R w0 es ⟨s.todo,tmps,bs,gs,s.next⟩->St w0 W' bs gs->s.pre bs->K ⟨tmps,[]⟩ W')->
  (∀tmps k b cs cs' gs W',s.bs[k]? =some (b,cs)->s.may k=true->AtM P f R w0 es ⟨s.todo,tmps,s.bs.set k (b,cs'),gs,s.nextP (s.bs.set k (b,cs'))⟩->St w0 W' (s.bs.set k (b,cs')) gs->K ⟨tmps,[]⟩ W')->
  wpOp P ops (QK P f R s.todo) i K ⟨s.tmps,[]⟩ W):AtM P f R w0 es s:=by
 obtain⟨todo,tmps,bs,gs,md⟩:=s
 cases md with
 |ctl=>simp[KS.now]at hn
 |ord ops' rest=>
  cases rest with
  |nil=>simp[KS.now]at hn
  |cons i rest=>
   simp only[KS.now,Option.map_eq_some_iff,Prod.mk.injEq]at hn
   obtain⟨o,ho,rfl,rfl⟩:=hn
   intro W hS
   rw[wpOps_cons]
   exact h W hS trivial i ho _ (λtmps' bs' gs' W' hA hS' _=>hA W' hS') (λtmps' k b cs cs' gs' W' _ _ hA hS'=>hA W' hS')
 |drw n ops' listed cur sb=>
  cases cur with
  |none=>simp[KS.now]at hn
  |some c=>
   obtain⟨i,sole⟩:=c
   cases n with
   |zero=>simp[KS.now]at hn
   |succ n=>
    simp only[KS.now,Option.map_eq_some_iff,Prod.mk.injEq]at hn
    obtain⟨o,ho,rfl,rfl⟩:=hn
    obtain rfl:sole=true:=hl
    intro hc hsel hD hp W hS m hm'
    obtain rfl:n=m:=by omega
    simp only[NM,List.contains_iff_mem]at hc
    have hi:i∈Region.ready .any ops' listed:=hc
    have hp':DX sb bs:=hp (λh0=>by rw[h0]at hi;cases hi)
    refine h W hS hp' i ho _ ?_ ?_
    ·intro tmps' bs' gs' W' hA hS' hk
     exact⟨DD sb es,λ_=>rfl,Fd hE hS' hk,hA rfl hsel (Bs hD hi) (λ_=>hk) W' hS'⟩
    intro tmps' k b cs cs' gs' W' hb hk hA hS'
    by_cases hs:Bv ops' i=true
    ·refine⟨DD (bs.set k (b,cs')) es,λh0=>(by rw[hs]at h0;cases h0),Fd hE hS' (MG _),?_⟩
     have hA':=hA
     simp only[KS.nextP,hs,if_true]at hA'
     exact hA' rfl hsel (Bs hD hi) (λ_=>MG _) W' hS'
    have hs':Bv ops' i=false:=by simpa using hs
    have hk2:DX sb (bs.set k (b,cs')):=by
     simp only[KS.may,Bool.or_eq_true]at hk
     have hk':=hk.resolve_left hs
     refine TR hp' hb ?_
     split at hk'
     ·exact Or.inl (by assumption)
     ·exact Or.inr ⟨_,by assumption⟩
     cases hk'
    refine⟨DD sb es,λ_=>rfl,Fd hE hS' hk2,?_⟩
    have hA':=hA
    simp only[KS.nextP,hs',Bool.false_eq_true,if_false]at hA'
    exact hA' rfl hsel (Bs hD hi) (λ_=>hk2) W' hS'
theorem AtM.look(hE:Ex w0 es){s:KS}{op:Oper}{ops:Array Oper}{v:Value}(hload:DI op=true)(hn:s.now=some (op,ops))
 (hv:(Region.wanted op (yielded ops s.tmps)=true/\ ∀W,s.sees w0 es W->(execOp s.ev op).run P W=.ok (.value v) W)∨(Region.wanted op (yielded ops s.tmps)=false/\v=undef))
 (hA:AtM P f R w0 es (s.adv op v)):AtM P f R w0 es s:=by
 by_cases hl:s.loud=true
 ·refine AtM.loud hE hn hl λW hS hK i hi K hKK _=> ?_
  have hsee:s.sees w0 es W:=by
   obtain⟨todo,tmps,bs,gs,md⟩:=s
   cases md with
   |ctl=>simp[KS.now]at hn
   |ord ops rest=>exact hS
   |drw n ops listed cur sb=>
    cases cur with
    |none=>exact hS
    |some c=>
     obtain⟨j,sole⟩:=c
     obtain rfl:sole=true:=hl
     exact hS
  rcases hv with⟨hw,hv⟩|⟨hw,rfl⟩
  ·refine Es hi hw ?_
   show Oper.upon P op ⟨s.tmps,[]⟩ K _ ((execOp s.ev op).run P W)
   rw[hv W hsee]
   show K ((Act.mk s.tmps []).put op.dst v) W
   rw[EG]
   exact hKK _ _ _ W hA hS hK
  refine MM hi hw ?_
  rw[EG]
  exact hKK _ _ _ W hA hS hK
 obtain⟨todo,tmps,bs,gs,md⟩:=s
 cases md with
 |ctl=>simp[KS.now]at hn
 |ord ops rest=>exact absurd rfl hl
 |drw n ops' listed cur sb=>
  cases cur with
  |none=>simp[KS.now]at hn
  |some c=>
   obtain⟨i,sole⟩:=c
   cases n with
   |zero=>simp[KS.now]at hn
   |succ n=>
    simp only[KS.now,Option.map_eq_some_iff,Prod.mk.injEq]at hn
    obtain⟨o,ho,rfl,rfl⟩:=hn
    have hsole:sole=false:=by cases sole with|true=>exact absurd rfl hl|false=>rfl
    subst hsole
    intro hc hsel hD hp W hS
    simp only[NM,Bool.and_eq_true,List.contains_iff_mem]at hc
    have hne:Region.ready .any ops' listed≠ []:= λh0=>by rw[h0]at hc;simp at hc
    have hH:DD sb es W:=Fd hE hS (hp hne)
    refine Mr hD ho hload hsel hc.2 hc.1 (λc a w h=>by cases h.1) (v:=v) ?_ hH ?_
    ·exact hv.imp (λh=>⟨h.1,λW hW=>h.2 W hW⟩) id
    rw[EG]
    exact hA rfl hsel (Bs hD hc.1) (λ_=>hp hne) W hS
theorem AtM.value(hE:Ex w0 es){s:KS}{op:Oper}{ops:Array Oper}{v:Value}(hn:s.now=some (op,ops))
 (hv:(Region.wanted op (yielded ops s.tmps)=true/\ ∀W,(execOp s.ev op).run P W=.ok (.value v) W)∨(Region.wanted op (yielded ops s.tmps)=false/\v=undef))
 (hA:AtM P f R w0 es (s.adv op v)):AtM P f R w0 es s:=by
 by_cases hl:s.loud=true
 ·refine AtM.loud hE hn hl λW hS hK i hi K hKK _=> ?_
  rcases hv with⟨hw,hv⟩|⟨hw,rfl⟩
  ·refine Es hi hw ?_
   show Oper.upon P op ⟨s.tmps,[]⟩ K _ ((execOp s.ev op).run P W)
   rw[hv W]
   show K ((Act.mk s.tmps []).put op.dst v) W
   rw[EG]
   exact hKK _ _ _ W hA hS hK
  refine MM hi hw ?_
  rw[EG]
  exact hKK _ _ _ W hA hS hK
 obtain⟨todo,tmps,bs,gs,md⟩:=s
 cases md with
 |ctl=>simp[KS.now]at hn
 |ord ops rest=>exact absurd rfl hl
 |drw n ops' listed cur sb=>
  cases cur with
  |none=>simp[KS.now]at hn
  |some c=>
   obtain⟨i,sole⟩:=c
   cases n with
   |zero=>simp[KS.now]at hn
   |succ n=>
    simp only[KS.now,Option.map_eq_some_iff,Prod.mk.injEq]at hn
    obtain⟨o,ho,rfl,rfl⟩:=hn
    have hsole:sole=false:=by cases sole with|true=>exact absurd rfl hl|false=>rfl
    subst hsole
    intro hc hsel hD hp W hS
    simp only[NM,Bool.and_eq_true,List.contains_iff_mem]at hc
    have hne:Region.ready .any ops' listed≠ []:= λh0=>by rw[h0]at hc;simp at hc
    have hH:DD sb es W:=Fd hE hS (hp hne)
    refine LI hD ho hsel hc.2 hc.1 (λc a w h=>by cases h.1) (v:=v) ?_ hH ?_
    ·exact hv
    rw[EG]
    exact hA rfl hsel (Bs hD hc.1) (λ_=>hp hne) W hS
def EH(tmps:Array Value):ResultVar->Sem Value
 | .tmp t=>pure (tmps.getD t undef)
 | .cell a t=>do loadVar t (<-asAddr (tmps.getD a undef))
theorem JD{bs:AD}{gs:BN}{tmps:Array Value}{W:World}(hS:St w0 W bs gs): ∀(rs:List ResultVar)(ks:List Nat){p q:Prop}{vs:List Value},Ew P bs tmps rs ks p=some (vs,q)->q->
 p/\(rs.mapM (EH tmps)).run P W=.ok vs W:=by
 intro rs
 induction rs with
 |nil=>
  intro ks p q vs h hq
  simp only[Ew,Option.some.injEq,Prod.mk.injEq]at h
  obtain⟨rfl,rfl⟩:=h
  exact⟨hq,rfl⟩
 |cons r rs ih=>
  intro ks p q vs h hq
  cases r with
  |tmp t=>
   simp only[Ew,Option.map_eq_some_iff,Prod.mk.injEq]at h
   obtain⟨⟨vs',q'⟩,h1,rfl,rfl⟩:=h
   obtain⟨hp,hr⟩:=ih ks h1 hq
   refine⟨hp,?_⟩
   rw[List.mapM_cons,Sem.run_bind]
   show((rs.mapM (EH tmps)>>= λx=>pure (tmps.getD t undef::x)):Sem (List Value)).run P W=_
   rw[Sem.run_bind,hr]
   rfl
  |cell a t=>
   cases ks with
   |nil=>simp[Ew]at h
   |cons k ks=>
    simp only[Ew]at h
    split at h
    ·rename_i b cs hb
     split at h
     ·rename_i v q1 hx
      simp only[Option.map_eq_some_iff,Prod.mk.injEq]at h
      obtain⟨⟨vs',q'⟩,h1,rfl,rfl⟩:=h
      obtain⟨hp,hr⟩:=ih ks h1 hq
      have hrun:=Cc (W:=W) hx hp.1 (λi v hv=>(hS.2.1 _ (List.mem_of_getElem? hb)).2.2.2 i v hv)
      refine⟨hp.2,?_⟩
      have h1:(EH tmps (.cell a t)).run P W=.ok v W:=by
       have ha: ∃ad,tmps.getD a undef=.pointer (some ad):=by
        unfold Gx at hx
        split at hx
        ·exact⟨_,by assumption⟩
        cases hx
       obtain⟨ad,ha⟩:=ha
       rw[ha]at hrun
       show(asAddr (tmps.getD a undef)>>= λx=>loadVar t x).run P W=_
       rw[ha]
       exact hrun
      rw[List.mapM_cons,Sem.run_bind,h1]
      show((rs.mapM (EH tmps)>>= λx=>pure (v::x)):Sem (List Value)).run P W=_
      rw[Sem.run_bind,hr]
      rfl
     cases h
    cases h
theorem EW(fn:Func)(tmps:Array Value){W:World}{vs:List Value}(h:(fn.results.toList.mapM (EH tmps)).run P W=.ok vs W):(results fn tmps).run P W=.ok (Hl vs) W:=by
 unfold results
 have e:fn.results.mapM (EH tmps)=List.toArray<$>fn.results.toList.mapM (EH tmps):=Array.mapM_eq_mapM_toList ..
 show(fn.results.mapM (EH tmps)>>= λvs=>(pure (if h:vs.size=1 then vs[0]else .tuple vs):Sem Value)).run P W=_
 rw[e,Sem.run_bind,Sem.run_map,h]
 show(Result.ok _ W:Result Value)=_
 congr 1
 match vs with
 | []=>rfl
 | [v]=>rfl
 |_::_::_=>rfl
theorem PA{tmps:Array Value}{k k':List Item}{md:Md}{bs:AD}{gs:BN}(h:ctl tmps k=some (k',md))(hA:AtM P f R w0 es ⟨k',tmps,bs,gs,md⟩):AtM P f R w0 es ⟨k,tmps,bs,gs,.ctl⟩:=by
 intro W hS
 unfold ctl at h
 split at h
 ·obtain⟨rfl,rfl⟩:=Prod.mk.inj (Option.some.inj h);exact At.step (λb cs=>step_skip) (hA W hS)
 ·obtain⟨rfl,rfl⟩:=Prod.mk.inj (Option.some.inj h);exact At.step (λb cs=>step_label) (hA W hS)
 ·obtain⟨rfl,rfl⟩:=Prod.mk.inj (Option.some.inj h);exact At.step (λb cs=>step_inBlock) (hA W hS)
 ·obtain⟨rfl,rfl⟩:=Prod.mk.inj (Option.some.inj h);exact At.step (λb cs=>step_inScope) (hA W hS)
 ·obtain⟨rfl,rfl⟩:=Prod.mk.inj (Option.some.inj h);exact At.step (λb cs=>step_seq) (hA W hS)
 ·split at h
  ·rename_i hc
   obtain⟨rfl,rfl⟩:=Prod.mk.inj (Option.some.inj h)
   exact At.step (λb cs=>step_cond (t:=true) hc) (hA W hS)
  ·rename_i hc
   obtain⟨rfl,rfl⟩:=Prod.mk.inj (Option.some.inj h)
   exact At.step (λb cs=>step_cond (t:=false) hc) (hA W hS)
  cases h
 ·obtain⟨rfl,rfl⟩:=Prod.mk.inj (Option.some.inj h);exact At.step (λb cs=>step_block) (hA W hS)
 ·obtain⟨rfl,rfl⟩:=Prod.mk.inj (Option.some.inj h);exact At.step (λb cs=>step_scope) (hA W hS)
 ·obtain⟨rfl,rfl⟩:=Prod.mk.inj (Option.some.inj h);exact At.step (λb cs=>step_loop) (hA W hS)
 ·obtain⟨rfl,rfl⟩:=Prod.mk.inj (Option.some.inj h);exact At.step (λb cs=>step_inLoop) (hA W hS)
 ·obtain⟨k1,h1,h2⟩:=Option.map_eq_some_iff.1 h
  obtain⟨rfl,rfl⟩:=Prod.mk.inj h2
  exact At.step (λb cs=>step_exit h1) (hA W hS)
 ·obtain⟨k1,h1,h2⟩:=Option.map_eq_some_iff.1 h
  obtain⟨rfl,rfl⟩:=Prod.mk.inj h2
  exact At.step (λb cs=>step_goto h1) (hA W hS)
 ·obtain⟨rfl,rfl⟩:=Prod.mk.inj (Option.some.inj h)
  exact At.leaf (wp_region (hA W hS))
 cases h
theorem FF(hE:Ex w0 es){s:KS}{op:Oper}{ops:Array Oper}{v:Value}(hn:s.now=some (op,ops))(hw:Region.wanted op (yielded ops s.tmps)=true)(hv: ∀W,(execOp s.ev op).run P W=.ok (.value v) W)
 (hA:AtM P f R w0 es (s.adv op v)):AtM P f R w0 es s:=AtM.value hE hn (Or.inl ⟨hw,hv⟩) hA
theorem MJ(hE:Ex w0 es){s:KS}{op:Oper}{ops:Array Oper}{v:Value}(hload:DI op=true)(hn:s.now=some (op,ops))(hw:Region.wanted op (yielded ops s.tmps)=true)(hv: ∀W,s.sees w0 es W->(execOp s.ev op).run P W=.ok (.value v) W)
 (hA:AtM P f R w0 es (s.adv op v)):AtM P f R w0 es s:=AtM.look hE hload hn (Or.inl ⟨hw,hv⟩) hA
theorem D8{tmps:Array Value}{sl:Nat}{u:Value}(h:tmps[sl]? =some u):tmps.setIfInBounds sl u=tmps:=by
 obtain⟨hl,he⟩:=Array.getElem?_eq_some_iff.1 h
 apply Array.ext (by simp)
 intro i h1 h2
 rw[Array.getElem_setIfInBounds (by simpa using h1)]
 split
 ·rename_i e;subst e;exact he.symm
 rfl
theorem Mz{s:KS}{op:Oper}{t:TypeId}{x:Operand}{W:World}{v:Value}(ho:op.op=.load t x)(h:(Instr.loadAt t (s.ev x)).run P W=.ok v W):(execOp s.ev op).run P W=.ok (.value v) W:=by
 unfold execOp
 simp only[ho]
 rw[Sem.run_bind,h]
 rfl
theorem JO(hm:P.follows .mixedOrders=true)(hE:Ex w0 es)(i:Ins)(s:KS){K:KS->Prop}(h:Dn P w0 es i s K)(hK: ∀s',K s'->AtM P f R w0 es s'):AtM P f R w0 es s:=by
 cases i with
 |c=>
  obtain⟨todo,tmps,bs,gs,md⟩:=s
  simp only[Dn]at h
  split at h
  ·split at h
   ·rename_i k md' hc
    exact PA hc (hK _ h)
   exact h.elim
  ·intro W hS
   exact⟨rfl,hK _ h W hS⟩
  ·split at h
   ·rename_i hr
    intro hc hsel hD hp W hS
    exact Fi hr ⟨rfl,hK _ h W hS⟩ _
   exact h.elim
  exact h.elim
 |d X=>
  obtain⟨todo,tmps,bs,gs,md⟩:=s
  simp only[Dn]at h
  split at h
  ·split at h
   ·rename_i hsel
    intro W hS
    have hS':St w0 W.drew bs gs:=St.drew hS
    exact At.leaf (NB hm (hK _ h rfl hsel Hc (λ_=>Ko X 0 _) W.drew hS'))
   exact h.elim
  exact h.elim
 |«at» i sole=>
  obtain⟨todo,tmps,bs,gs,md⟩:=s
  simp only[Dn]at h
  split at h
  ·split at h
   ·rename_i hc
    intro _ hsel hD hp W hS
    cases sole with
    |true=>
     simp only[if_true,decide_eq_true_eq]at hc
     exact NI hc (hK _ h (by simp[NM,hc]) hsel hD hp W hS _ rfl)
    |false=>exact hK _ h hc hsel hD hp W hS
   exact h.elim
  exact h.elim
 |setv sl v=>
  obtain⟨todo,tmps,bs,gs,md⟩:=s
  simp only[Dn]at h
  split at h
  ·rename_i u hu
   obtain⟨rfl,h⟩:=h
   have key:tmps.setIfInBounds sl u=tmps:=D8 hu
   have:=hK _ h
   rwa[key]at this
  exact h.elim
 |setc k i v=>
  obtain⟨todo,tmps,bs,gs,md⟩:=s
  simp only[Dn]at h
  split at h
  ·rename_i b cs hb
   split at h
   ·rename_i u hu
    obtain⟨rfl,h⟩:=h
    have h1:cs.set i u=cs:=by
     obtain⟨hl,he⟩:=List.getElem?_eq_some_iff.1 hu
     rw[<-he];exact List.set_getElem_self hl
    have h2:bs.set k (b,cs.set i u)=bs:=by
     rw[h1]
     obtain⟨hl,he⟩:=List.getElem?_eq_some_iff.1 hb
     rw[<-he];exact List.set_getElem_self hl
    have:=hK _ h
    rwa[h2]at this
   exact h.elim
  exact h.elim
 |v=>
  simp only[Dn]at h
  split at h
  ·rename_i op ops hn
   split at h
   ·rename_i v hw hx
    exact FF hE hn hw (λW=>BQ _ hx) (hK _ h)
   exact h.elim
  exact h.elim
 |u=>
  simp only[Dn]at h
  split at h
  ·rename_i op ops hn
   split at h
   ·rename_i hw
    exact AtM.value hE hn (Or.inr ⟨hw,rfl⟩) (hK _ h)
   exact h.elim
  exact h.elim
 |own k=>
  simp only[Dn]at h
  split at h
  ·rename_i op ops hn
   split at h
   ·rename_i b cs t x hw hb ho
    split at h
    ·rename_i v q hx
     exact MJ hE (by unfold DI;rw[ho]) hn hw (λW hW=>Mz ho (Cc hx h.1 (λi v hv=>L5 hW _ (List.mem_of_getElem? hb) i v hv))) (hK _ h.2)
    exact h.elim
   exact h.elim
  exact h.elim
 |ext k=>
  simp only[Dn]at h
  split at h
  ·rename_i op ops hn
   split at h
   ·rename_i b cs t x hw hb ho
    split at h
    ·rename_i v q hx
     exact MJ hE (by unfold DI;rw[ho]) hn hw (λW hW=>Mz ho (Cc hx h.1 (λi v hv=>Th hE hW _ (List.mem_of_getElem? hb) i v hv))) (hK _ h.2)
    exact h.elim
   exact h.elim
  exact h.elim
 |put k=>
  simp only[Dn]at h
  split at h
  ·rename_i op ops hn hl
   split at h
   ·rename_i b cs hw hb
    split at h
    ·rename_i cs' q hx
     have hloud:s.loud=true:=by
      obtain⟨todo,tmps,bs,gs,md⟩:=s
      cases md with
      |ctl=>simp[KS.now]at hn
      |ord ops rest=>rfl
      |drw n ops listed cur sb=>
       cases cur with
       |none=>simp[KS.may]at hl
       |some c=>
        obtain⟨i,sole⟩:=c
        cases sole with
        |true=>rfl
        |false=>simp[KS.may]at hl
     refine AtM.loud hE hn hloud λW hS _ i hi K _ hPP=> ?_
     obtain⟨W',hr,hS'⟩:=NZ (P:=P) (w0:=w0) (gs:=s.gs) (λhe=>List.isEmpty_iff.1 he) _ hx h.1 hS hb
     refine Es hi hw ?_
     show Oper.upon P op ⟨s.tmps,[]⟩ K _ ((execOp s.ev op).run P W)
     rw[hr]
     show K ((Act.mk s.tmps []).put op.dst undef) W'
     rw[EG]
     exact hPP _ k _ _ _ _ W' hb hl (hK _ h.2) hS'
    exact h.elim
   exact h.elim
  exact h.elim
 |call v=>
  simp only[Dn]at h
  split at h
  ·rename_i op ops hn hl
   split at h
   ·rename_i g args hw hx
    refine AtM.loud hE hn hl λW hS hK' i hi K hKK _=> ?_
    refine Es hi hw ?_
    show Oper.upon P op ⟨s.tmps,[]⟩ K _ ((execOp s.ev op).run P W)
    rw[BQ (W:=W) _ hx]
    refine Calls.mono (h.1 W hS) ?_
    rintro e w' ⟨rfl,hb⟩
    show K ((Act.mk s.tmps []).put op.dst v) w'
    rw[EG]
    exact hKK _ _ _ _ (hK _ h.2) (hS.call hb) hK'
   exact h.elim
  exact h.elim
 |eq b=>
  simp only[Dn]at h
  split at h
  ·rename_i op ops hn
   split at h
   ·rename_i t x y yt hw ho
    split at h
    ·rename_i xs ys u hx hy hg
     refine FF hE hn hw (λW=> ?_) (hK _ h.2)
     unfold execOp
     simp only[ho]
     show((eqGuard .eql t x y (s.ev x) (s.ev y)>>= λ_=>binOp .eql t (s.ev x) (s.ev y))>>= λv=>(pure (.value v):Sem Next)).run P W=_
     rw[Sem.run_bind,Sem.run_bind,BQ _ hg,hx,hy]
     show(((Op.equalIn 10000 t (.agg xs) (.agg ys)>>= λr=>pure (Value.bool r)):Sem Value).run P W).andThen _=_
     rw[Sem.run_bind,h.1 W]
     rfl
    exact h.elim
   ·rename_i t x y yt hw ho
    split at h
    ·rename_i xs ys u hx hy hg
     refine FF hE hn hw (λW=> ?_) (hK _ h.2)
     unfold execOp
     simp only[ho]
     show((eqGuard .neq t x y (s.ev x) (s.ev y)>>= λ_=>binOp .neq t (s.ev x) (s.ev y))>>= λv=>(pure (.value v):Sem Next)).run P W=_
     rw[Sem.run_bind,Sem.run_bind,BQ _ hg,hx,hy]
     show(((Op.equalIn 10000 t (.agg xs) (.agg ys)>>= λr=>pure (Value.bool (!r))):Sem Value).run P W).andThen _=_
     rw[Sem.run_bind,h.1 W]
     rfl
    exact h.elim
   exact h.elim
  exact h.elim
 |fact v=>
  simp only[Dn]at h
  split at h
  ·rename_i op ops hn
   split at h
   ·rename_i hw
    exact FF hE hn hw (λW=>h.1 W) (hK _ h.2)
   exact h.elim
  exact h.elim
theorem JR(hm:P.follows .mixedOrders=true)(hE:Ex w0 es): ∀(l:List Ins)(s:KS){K:KS->Prop},Qg P w0 es l s K->(∀s',K s'->AtM P f R w0 es s')->AtM P f R w0 es s
 | [],s,_,h,hK=>hK s h
 |i::l,s,_,h,hK=>JO hm hE i s h λs' h'=>JR hm hE l s' h' hK
theorem O9(i:Ins)(hi:i.inReg=true)(s:KS){K:KS->Prop}(h:Dn P w0 es i s K):Dn P w0 es i s λs'=>s'.todo=s.todo/\K s':=by
 cases i with
 |c=>cases hi
 |d X=>cases hi
 |«at» i sole=>
  obtain⟨todo,tmps,bs,gs,md⟩:=s
  simp only[Dn]at h⊢
  split at h
  ·split at h
   ·rename_i h2
    exact⟨by first|rfl|trivial,h⟩
   exact h.elim
  exact h.elim
 |setv sl v=>
  simp only[Dn]at h⊢
  split at h
  ·rename_i hu
   exact⟨h.1,by first|rfl|trivial,h.2⟩
  exact h.elim
 |setc k i v=>
  simp only[Dn]at h⊢
  split at h
  ·split at h
   ·exact⟨h.1,by first|rfl|trivial,h.2⟩
   exact h.elim
  exact h.elim
 |v=>
  simp only[Dn]at h⊢
  split at h
  ·rename_i op ops hn
   split at h
   ·rename_i v hw hx
    exact⟨by first|rfl|trivial,h⟩
   exact h.elim
  exact h.elim
 |u=>
  simp only[Dn]at h⊢
  split at h
  ·rename_i op ops hn
   split at h
   ·rename_i hw
    exact⟨by first|rfl|trivial,h⟩
   exact h.elim
  exact h.elim
 |own k=>
  simp only[Dn]at h⊢
  split at h
  ·rename_i op ops hn
   split at h
   ·rename_i b cs t x hw hb ho
    split at h
    ·rename_i hx
     exact⟨h.1,by first|rfl|trivial,h.2⟩
    exact h.elim
   exact h.elim
  exact h.elim
 |ext k=>
  simp only[Dn]at h⊢
  split at h
  ·rename_i op ops hn
   split at h
   ·rename_i b cs t x hw hb ho
    split at h
    ·rename_i hx
     exact⟨h.1,by first|rfl|trivial,h.2⟩
    exact h.elim
   exact h.elim
  exact h.elim
 |put k=>
  simp only[Dn]at h⊢
  split at h
  ·rename_i op ops hn hl
   split at h
   ·rename_i b cs hw hb
    split at h
    ·rename_i hx
     exact⟨h.1,by first|rfl|trivial,h.2⟩
    exact h.elim
   exact h.elim
  exact h.elim
 |call v=>
  simp only[Dn]at h⊢
  split at h
  ·rename_i op ops hn hl
   split at h
   ·rename_i g args hw hx
    exact⟨h.1,by first|rfl|trivial,h.2⟩
   exact h.elim
  exact h.elim
 |eq b=>
  simp only[Dn]at h⊢
  split at h
  ·rename_i op ops hn
   split at h
   ·rename_i t x y yt hw ho
    split at h
    ·rename_i xs ys u hx hy hg
     exact⟨h.1,by first|rfl|trivial,h.2⟩
    exact h.elim
   ·rename_i t x y yt hw ho
    split at h
    ·rename_i xs ys u hx hy hg
     exact⟨h.1,by first|rfl|trivial,h.2⟩
    exact h.elim
   exact h.elim
  exact h.elim
 |fact v=>
  simp only[Dn]at h⊢
  split at h
  ·rename_i op ops hn
   split at h
   ·rename_i hw
    exact⟨h.1,by first|rfl|trivial,h.2⟩
   exact h.elim
  exact h.elim
theorem Kq(hm:P.follows .mixedOrders=true)(hE:Ex w0 es): ∀(l:List Ins)(s:KS){K:KS->Prop},l.all Ins.inReg=true->Qg P w0 es l s K->(∀s',s'.todo=s.todo->K s'->AtM P f R w0 es s')->AtM P f R w0 es s
 | [],s,_,_,h,hK=>hK s rfl h
 |i::l,s,_,ha,h,hK=>by
  simp only[List.all_cons,Bool.and_eq_true]at ha
  refine JO hm hE i s (O9 i ha.1 s h) λs' h'=> ?_
  exact Kq hm hE l s' ha.2 h'.2 λs'' e k=>hK s'' (e.trans h'.1) k
theorem Nw(hm:P.follows .mixedOrders=true)(hE:Ex w0 es): ∀(o:ROrc)(s:KS){K:KS->Prop},Gm P w0 es o s K->
 (∀s',s'.todo=s.todo->(∃n ops listed sb,s'.md=.drw n ops listed none sb/\Region.ready .any ops listed=[])->K s'->AtM P f R w0 es s')->AtM P f R w0 es s:=by
 intro o
 induction o with
 |done=>
  rintro⟨todo,tmps,bs,gs,md⟩ K h hK
  simp only[Gm]at h
  split at h
  ·split at h
   ·rename_i hr
    exact hK _ rfl ⟨_,_,_,_,rfl,hr⟩ h
   exact h.elim
  exact h.elim
 |s l o ih=>
  intro s K h hK
  simp only[Gm]at h
  split at h
  ·rename_i ha
   exact Kq hm hE l s ha h λs' e h'=>ih s' h' λs'' e' hd k=>hK s'' (e'.trans e) hd k
  exact h.elim
 |split sl t e iht ihe=>
  rintro⟨todo,tmps,bs,gs,md⟩ K h hK
  simp only[Gm]at h
  split at h
  ·rename_i B hB
   have key: ∀u,tmps[sl]? =some u->tmps.setIfInBounds sl u=tmps:= λu hu=>D8 hu
   cases B with
   |true=>have:=iht _ (h.1 rfl) (λs' e=>hK s' e);rwa[key _ hB]at this
   |false=>have:=ihe _ (h.2 rfl) (λs' e=>hK s' e);rwa[key _ hB]at this
  exact h.elim
 |new k ih=>
  intro s K h hK
  simp only[Gm]at h
  split at h
  ·rename_i op ops hn hl
   split at h
   ·rename_i cs t kk hw hx
    refine AtM.loud hE hn hl λW hS hK' i hi K' hKK _=> ?_
    have h1:=h W.heap.size
    split at h1
    ·rename_i v hv
     refine Es hi hw ?_
     show Oper.upon P op ⟨s.tmps,[]⟩ K' _ ((execOp s.ev op).run P W)
     rw[GV _ hx hv]
     show K' ((Act.mk s.tmps []).put op.dst v) _
     rw[EG]
     exact hKK _ _ _ _ (ih _ _ h1 λs' e hd k=>hK s' e hd k) (hS.layEnd cs t) (Mc hK')
    exact h1.elim
   exact h.elim
  exact h.elim
 |big z k ih=>
  intro s K h hK
  simp only[Gm]at h
  split at h
  ·rename_i op ops hn hl
   split at h
   ·rename_i g args hw hx
    refine AtM.loud hE hn hl λW hS hK' i hi K' hKK _=> ?_
    refine Es hi hw ?_
    show Oper.upon P op ⟨s.tmps,[]⟩ K' _ ((execOp s.ev op).run P W)
    rw[BQ (W:=W) _ hx]
    refine Calls.mono (h.1 W hS) ?_
    rintro e w' ⟨A,c,rfl,hr,hb⟩
    show K' ((Act.mk s.tmps []).put op.dst _) w'
    rw[EG]
    exact hKK _ _ _ _ (ih A c _ (h.2 A c) λs' e hd k=>hK s' e hd k) ((hS.call hb).bigEnd hr) hK'
   exact h.elim
  exact h.elim
 |fork i j a b iha ihb=>
  rintro⟨todo,tmps,bs,gs,md⟩ K h hK
  simp only[Gm]at h
  split at h
  ·split at h
   ·rename_i hc
    simp only[decide_eq_true_eq]at hc
    intro _ hsel hD hp W hS
    refine⟨λh0=>(by rw[hc]at h0;cases h0),λx hx=> ?_⟩
    rw[hc]at hx
    rcases List.mem_cons.1 hx with rfl|hx
    ·exact iha _ h.1 (λs' e hd k=>hK s' e hd k) (by simp[NM,hc]) hsel hD hp W hS _ rfl
    rw[List.mem_singleton]at hx
    subst hx
    exact ihb _ h.2 (λs' e hd k=>hK s' e hd k) (by simp[NM,hc]) hsel hD hp W hS _ rfl
   exact h.elim
  exact h.elim
theorem JK{x:Array Value×AD×BN}{s:KS}(hmd:s.md=.ctl)(hl:SU x s)(h:AtM P f R w0 es ⟨s.todo,x.1,x.2.1,x.2.2,.ctl⟩):AtM P f R w0 es s:=by
 obtain⟨todo,tmps,bs,gs,md⟩:=s
 dsimp only at hmd
 subst hmd
 obtain⟨h1,⟨t,h2⟩,h3⟩:=hl
 dsimp only at h1 h2 h3
 subst h1 h2
 intro W hS
 refine h W (hS.less ?_ h3)
 exact List.sublist_append_left _ _
theorem N8(hm:P.follows .mixedOrders=true)(hE:Ex w0 es): ∀(o:Orc)(Ls:List (KS->Prop))(s:KS),(∀L∈Ls,∀s,L s->AtM P f R w0 es s)->Ez P f R w0 es o Ls s->AtM P f R w0 es s:=by
 intro o
 induction o with
 |fin=>intro Ls s hL h;exact h
 |s l o ih=>intro Ls s hL h;exact JR hm hE l s h λs' h'=>ih Ls s' hL h'
 |split sl t e iht ihe=>
  rintro Ls ⟨todo,tmps,bs,gs,md⟩ hL h
  simp only[Ez]at h
  split at h
  ·rename_i B hB
   have key: ∀u,tmps[sl]? =some u->tmps.setIfInBounds sl u=tmps:= λu hu=>D8 hu
   cases B with
   |true=>have:=iht Ls _ hL (h.1 rfl);rwa[key _ hB]at this
   |false=>have:=ihe Ls _ hL (h.2 rfl);rwa[key _ hB]at this
  exact h.elim
 |gen sl k ih=>
  rintro Ls ⟨todo,tmps,bs,gs,md⟩ hL h
  simp only[Ez]at h
  split at h
  ·rename_i κ n hu
   have key:tmps.setIfInBounds sl (.int κ n)=tmps:=D8 hu
   have:=ih n Ls _ hL (h n rfl)
   rwa[key]at this
  exact h.elim
 |new k ih=>
  intro Ls s hL h
  simp only[Ez]at h
  split at h
  ·rename_i op ops hn hl
   split at h
   ·rename_i cs t kk hw hx
    refine AtM.loud hE hn hl λW hS hK i hi K hKK _=> ?_
    have h1:=h W.heap.size
    split at h1
    ·rename_i v hv
     refine Es hi hw ?_
     show Oper.upon P op ⟨s.tmps,[]⟩ K _ ((execOp s.ev op).run P W)
     rw[GV _ hx hv]
     show K ((Act.mk s.tmps []).put op.dst v) _
     rw[EG]
     exact hKK _ _ _ _ (ih _ Ls _ hL h1) (hS.layEnd cs t) (Mc hK)
    exact h1.elim
   exact h.elim
  exact h.elim
 |big z k ih=>
  intro Ls s hL h
  simp only[Ez]at h
  split at h
  ·rename_i op ops hn hl
   split at h
   ·rename_i g args hw hx
    refine AtM.loud hE hn hl λW hS hK i hi K hKK _=> ?_
    refine Es hi hw ?_
    show Oper.upon P op ⟨s.tmps,[]⟩ K _ ((execOp s.ev op).run P W)
    rw[BQ (W:=W) _ hx]
    refine Calls.mono (h.1 W hS) ?_
    rintro e w' ⟨A,c,rfl,hr,hb⟩
    show K ((Act.mk s.tmps []).put op.dst _) w'
    rw[EG]
    exact hKK _ _ _ _ (ih A c Ls _ hL (h.2 A c)) ((hS.call hb).bigEnd hr) hK
   exact h.elim
  exact h.elim
 |meet S t o ih=>
  rintro Ls s hL h
  simp only[Ez]at h
  refine Nw hm hE t s h.1 ?_
  rintro⟨todo,tmps,bs,gs,md⟩ e ⟨n,ops,listed,sb,hmd,hr⟩ ⟨ρ,α,h1,h2,h3⟩
  dsimp only at e hmd h1 h2 h3
  subst hmd h1 h2 h3 e
  intro _ _ _ _ W hS
  have hA:At P f R s.todo ⟨(S ρ α).1,[]⟩ W:=ih ρ α Ls _ hL (h.2 ρ α) W hS
  cases n with
  |zero=>exact Fi hr ⟨rfl,hA⟩ _
  |succ n=>exact Fi hr ⟨rfl,hA⟩ _
 |loop I μ S o ih=>
  rintro Ls ⟨todo,tmps,bs,gs,md⟩ hL h
  simp only[Ez]at h
  split at h
  ·obtain⟨⟨k,ξ,u,α,hI,hl⟩,hr⟩:=h
   have key: ∀n k ξ u α,μ k ξ=n->I k ξ->AtM P f R w0 es ⟨todo,(S k ξ u α).1,(S k ξ u α).2.1,(S k ξ u α).2.2,.ctl⟩:=by
    intro n
    induction n using Nat.strongRecOn with
    |_ n ihn=>
     intro k ξ u α hn hI
     refine ih k ξ u α _ _ ?_ (hr k ξ u α hI)
     intro L hLm s hLs
     rcases List.mem_cons.1 hLm with rfl|hLm
     ·obtain⟨todo',tmps',bs',gs',md'⟩:=s
      dsimp only at hLs
      split at hLs
      ·rename_i hmd
       obtain⟨rfl,k',ξ',u',α',hI',hlt,hl'⟩:=hLs
       exact JK rfl hl' (ihn _ (hn▸hlt) k' ξ' u' α' rfl hI')
      exact hLs.elim
     exact hL L hLm s hLs
   exact JK rfl hl (key _ k ξ u α rfl hI)
  exact h.elim
 |cut T I S t o iht iho=>
  intro Ls s hL h
  simp only[Ez]at h
  refine iht _ s ?_ h.1
  intro L hLm s' hLs
  rcases List.mem_cons.1 hLm with rfl|hLm
  ·obtain⟨todo',tmps',bs',gs',md'⟩:=s'
   dsimp only at hLs
   split at hLs
   ·obtain⟨rfl,ξ,u,α,hI,hl⟩:=hLs
    exact JK rfl hl (iho ξ u α Ls _ hL (h.2 ξ u α hI))
   exact hLs.elim
  exact hL L hLm s' hLs
 |again d=>
  intro Ls s hL h
  simp only[Ez]at h
  split at h
  ·rename_i L hd
   exact hL L (List.mem_of_getElem? hd) s h
  exact h.elim
 |ret ks=>
  rintro Ls ⟨todo,tmps,bs,gs,md⟩ hL h
  simp only[Ez]at h
  split at h
  ·rename_i fn hf
   intro W hS
   split at h
   ·split at h
    ·rename_i k vs q hr
     exact At.ret hf rfl (EW fn tmps (JD hS _ _ hr h.1).2) (h.2 W hS)
    exact h.elim
   ·split at h
    ·rename_i vs q hr
     exact At.end hf rfl (EW fn tmps (JD hS _ _ hr h.1).2) (h.2 W hS)
    exact h.elim
   exact h.elim
  exact h.elim
theorem B2(o:Orc)(hm:P.follows .mixedOrders=true){fn:Func}{c:Code}{args tmps:Array Value}{w:World}{gs:BN}(h0:St w w [] gs)(hE:Ex w es)(hf:P.funcs[f]? =some fn)(hb:fn.body=some c)
 (ht:args++Array.replicate (fn.ntmps-args.size) undef=tmps)(h:Ez P f R w es o [] ⟨[.code c],tmps,[],gs,.ctl⟩):Calls P f args w R:=
 Mm hf hb (by rw[ht];exact N8 hm hE o [] _ (λ_ hL=>by cases hL) h w h0)
end
end
end Go.Proofs.YtikajapjkdloaaaGreatDoor
