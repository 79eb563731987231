/- The second engine, fifth part: what a plan leaves is enough. -/
import Derived.Test.YtikajapjkdloaaaGreatDoor909
namespace Go.Proofs.YtikajapjkdloaaaGreatDoor
section
open Go.RowKit
section
variable {P:Program} {f:FuncId} {m:Aim} {B:Base} {es:AD}
def LH(sb bs:AD):Prop:= ∀(j:Nat) x,sb[j]? =some x->x.2=[]∨bs[j]? =some x
theorem If: ∀{sb bs:AD},Gz sb bs->LH sb bs
 | [],_,_,j,x,h=>by simp at h
 |y::r,[],hs,0,x,h=>by
  obtain rfl:y=x:=by simpa using h
  exact Or.inl hs.1
 |y::r,[],hs,j+1,x,h=>by
  rcases If hs.2 j x (by simpa using h)with q|q
  ·exact Or.inl q
  simp at q
 |y::r,z::s,hs,0,x,h=>by
  obtain rfl:y=x:=by simpa using h
  rcases hs.1 with q|q
  ·exact Or.inl q
  exact Or.inr (by rw[q];rfl)
 |y::r,z::s,hs,j+1,x,h=>by
  rcases If hs.2 j x (by simpa using h)with q|q
  ·exact Or.inl q
  exact Or.inr (by simpa using q)
theorem KP(bs:AD):LH bs bs:= λ_ _ h=>Or.inr h
theorem L_{sb bs t:AD}(h:LH sb bs):LH sb (bs++t):= λj x hx=>(h j x hx).imp id getElem?_of_append
theorem Jn(X:List Nat): ∀(i:Nat)(bs:AD),LH (Fm X i bs) bs
 |_,[],j,x,h=>by simp[Fm]at h
 |i,b::bs,0,x,h=>by
  simp only[Fm,List.getElem?_cons_zero,Option.some.injEq]at h
  subst h
  split
  ·exact Or.inl rfl
  exact Or.inr rfl
 |i,b::bs,j+1,x,h=>by
  simp only[Fm,List.getElem?_cons_succ]at h
  exact(Jn X (i+1) bs j x h).imp id (λq=>by simpa using q)
def AtX(P:Program)(f:FuncId)(m:Aim)(B:Base)(es:AD)(s:KX):Prop:=
 match s.md with
 | .ctl=> ∀W ds,Sx B W s.bs s.gs s.rs s.os->Mk B W ds->AtG f m.ro (m.fin P f) s.todo ⟨s.tmps,mk m ds⟩ W
 | .ord ops rest=> ∀W ds,Sx B W s.bs s.gs s.rs s.os->Mk B W ds->Ll P ops (λa w=>AtG f m.ro (m.fin P f) s.todo a w) rest ⟨s.tmps,mk m ds⟩ W
 | .drw n ops listed cur sb=>NM ops listed cur=true->Region.noSelect ops=true->closed ops listed->(Region.ready .any ops listed≠ []->LH sb s.bs)-> ∀W ds,Sx B W s.bs s.gs s.rs s.os->Mk B W ds->
   match cur with
   |some (i,true)=> ∀k,n=k+1->opG P ops i (λa' w'=> ∃S':World->Prop,(Bv ops i=false->S'=DD sb es)/\S' w'/\G6 P ops (λa w=>AtG f m.ro (m.fin P f) s.todo a w) k S' (listed.setIfInBounds i true) a' w') ⟨s.tmps,mk m ds⟩ W
   |_=>G6 P ops (λa w=>AtG f m.ro (m.fin P f) s.todo a w) n (DD sb es) listed ⟨s.tmps,mk m ds⟩ W
theorem CZ(tmps:Array Value)(ds:List Deferred)(dst:Option Tmp)(v:Value):(Act.mk tmps ds).put dst v=⟨DM tmps dst v,ds⟩:=by cases dst<;>rfl
theorem M6(tmps:Array Value)(ds:List Deferred):Act.eval ⟨tmps,ds⟩=Act.eval ⟨tmps,[]⟩:=by funext x;cases x<;>rfl
theorem Fq{W:World}{bs:AD}{gs:BN}{rs:Aw}{os:DV}(h:Sx B W bs gs rs os):GE bs W:= λx hx=>(h.blk x hx).2.2.2
theorem FL{W:World}{bs:AD}{gs:BN}{rs:Aw}{os:DV}(hE:ExX B es)(h:Sx B W bs gs rs os):GE es W:= λx hx i v hv=>h.oldc (hE x hx).2.1 ((hE x hx).2.2 i v hv)
theorem Jp{W:World}{sb bs:AD}{gs:BN}{rs:Aw}{os:DV}(hE:ExX B es)(h:Sx B W bs gs rs os)(hs:LH sb bs):DD sb es W:=by
 refine⟨λx hx i v hv=> ?_,FL hE h⟩
 obtain⟨j,hj⟩:=List.mem_iff_getElem?.1 hx
 rcases hs j x hj with q|q
 ·rw[q]at hv;simp at hv
 exact Fq h x (List.mem_of_getElem? q) i v hv
def KX.pre(s:KX)(bs:AD):Prop:=
 match s.md with
 | .drw _ _ _ _ sb=>LH sb bs
 |_=>True
def KX.sees(B:Base)(es:AD)(s:KX)(W:World):Prop:=
 match s.md with
 | .drw _ _ _ (some (_,false)) sb=>DD sb es W
 |_=>Sx B W s.bs s.gs s.rs s.os
theorem Vv{s:KX}{W:World}(hE:ExX B es)(h:s.sees B es W):DD s.blocks es W:=by
 obtain⟨todo,tmps,bs,gs,rs,os,md⟩:=s
 have key:Sx B W bs gs rs os->DD bs es W:= λh=>⟨Fq h,FL hE h⟩
 cases md with
 |ctl=>exact key h
 |ord ops rest=>exact key h
 |drw n ops listed cur sb=>
  cases cur with
  |none=>exact key h
  |some c=>
   obtain⟨i,sole⟩:=c
   cases sole with
   |true=>exact key h
   |false=>exact h
theorem Pk{s:KX}{bs:AD}{x:Nat×List Value}(h:s.pre bs):s.pre (bs++[x]):=by
 obtain⟨todo,tmps,bs',gs,rs,os,md⟩:=s
 cases md with
 |drw n ops listed cur sb=>exact L_ h
 |_=>trivial
theorem Ft{op:Oper}(h:DI op=true):Bb op=false:=by
 unfold DI at h;unfold Bb
 split at h
 ·rename_i e;rw[e]
 cases h
theorem AtX.loud(hE:ExX B es){s:KX}{op:Oper}{ops:Array Oper}(hn:s.now=some (op,ops))(hl:s.loud=true)
 (h: ∀W ds,Sx B W s.bs s.gs s.rs s.os->Mk B W ds->s.pre s.bs-> ∀i,ops[i]? =some op-> ∀K:Act->World->Prop,
  (∀tmps bs gs rs os W',AtX P f m B es ⟨s.todo,tmps,bs,gs,rs,os,s.next⟩->Sx B W' bs gs rs os->Mk B W' ds->s.pre bs->K ⟨tmps,mk m ds⟩ W')->
  (∀tmps bs gs rs os W',s.may bs->AtX P f m B es ⟨s.todo,tmps,bs,gs,rs,os,s.nextP bs⟩->Sx B W' bs gs rs os->Mk B W' ds->K ⟨tmps,mk m ds⟩ W')->
  opG P ops i K ⟨s.tmps,mk m ds⟩ W):AtX P f m B es s:=by
 obtain⟨todo,tmps,bs,gs,rs,os,md⟩:=s
 cases md with
 |ctl=>simp[KX.now]at hn
 |ord ops' rest=>
  cases rest with
  |nil=>simp[KX.now]at hn
  |cons i rest=>
   simp only[KX.now,Option.map_eq_some_iff,Prod.mk.injEq]at hn
   obtain⟨o,ho,rfl,rfl⟩:=hn
   intro W ds hS hM
   exact h W ds hS hM trivial i ho _ (λtmps' bs' gs' rs' os' W' hA hS' hM' _=>hA W' ds hS' hM') (λtmps' bs' gs' rs' os' W' _ hA hS' hM'=>hA W' ds hS' hM')
 |drw n ops' listed cur sb=>
  cases cur with
  |none=>simp[KX.now]at hn
  |some c=>
   obtain⟨i,sole⟩:=c
   cases n with
   |zero=>simp[KX.now]at hn
   |succ n=>
    simp only[KX.now,Option.map_eq_some_iff,Prod.mk.injEq]at hn
    obtain⟨o,ho,rfl,rfl⟩:=hn
    obtain rfl:sole=true:=hl
    intro hc hsel hD hp W ds hS hM k hk'
    obtain rfl:n=k:=by omega
    simp only[NM,List.contains_iff_mem]at hc
    have hi:i∈Region.ready .any ops' listed:=hc
    have hp':LH sb bs:=hp (λh0=>by rw[h0]at hi;cases hi)
    refine h W ds hS hM hp' i ho _ ?_ ?_
    ·intro tmps' bs' gs' rs' os' W' hA hS' hM' hk
     exact⟨DD sb es,λ_=>rfl,Jp hE hS' hk,hA rfl hsel (Bs hD hi) (λ_=>hk) W' ds hS' hM'⟩
    intro tmps' bs' gs' rs' os' W' hmay hA hS' hM'
    simp only[KX.may]at hmay
    by_cases hs:Bv ops' i=true
    ·refine⟨DD bs' es,λh0=>(by rw[hs]at h0;cases h0),Jp hE hS' (KP _),?_⟩
     simp only[KX.nextP,hs,if_true]at hA
     exact hA rfl hsel (Bs hD hi) (λ_=>KP _) W' ds hS' hM'
    have hs':Bv ops' i=false:=by simpa using hs
    simp only[hs',Bool.false_eq_true,if_false]at hmay
    refine⟨DD sb es,λ_=>rfl,Jp hE hS' (If hmay),?_⟩
    simp only[KX.nextP,hs',Bool.false_eq_true,if_false]at hA
    exact hA rfl hsel (Bs hD hi) (λ_=>If hmay) W' ds hS' hM'
theorem CH(tmps:Array Value)(ds:List Deferred)(op:Oper)(W:World):(execOp (Act.eval ⟨tmps,ds⟩) op).run P W=(execOp (Act.eval ⟨tmps,[]⟩) op).run P W:=by rw[M6]
theorem AtX.look(hE:ExX B es){s:KX}{op:Oper}{ops:Array Oper}{v:Value}(hload:DI op=true)(hn:s.now=some (op,ops))
 (hw:Region.wanted op (yielded ops s.tmps)=true)(hv: ∀W,DD s.blocks es W->(execOp s.ev op).run P W=.ok (.value v) W)
 (hA:AtX P f m B es (s.adv op v)):AtX P f m B es s:=by
 by_cases hl:s.loud=true
 ·refine AtX.loud hE hn hl λW ds hS hM hK i hi K hKK _=> ?_
  have hsee:s.sees B es W:=by
   obtain⟨todo,tmps,bs,gs,rs,os,md⟩:=s
   cases md with
   |ctl=>simp[KX.now]at hn
   |ord ops rest=>exact hS
   |drw n ops listed cur sb=>
    cases cur with
    |none=>exact hS
    |some c=>
     obtain⟨j,sole⟩:=c
     obtain rfl:sole=true:=hl
     exact hS
  refine Dq hi hw (Ft hload) ?_
  rw[CH]
  show N0 P op K _ ((execOp s.ev op).run P W)
  rw[hv W (Vv hE hsee)]
  show K ((Act.mk s.tmps (mk m ds)).put op.dst v) W
  rw[CZ]
  exact hKK _ _ _ _ _ W hA hS hM hK
 obtain⟨todo,tmps,bs,gs,rs,os,md⟩:=s
 cases md with
 |ctl=>simp[KX.now]at hn
 |ord ops rest=>exact absurd rfl hl
 |drw n ops' listed cur sb=>
  cases cur with
  |none=>simp[KX.now]at hn
  |some c=>
   obtain⟨i,sole⟩:=c
   cases n with
   |zero=>simp[KX.now]at hn
   |succ n=>
    simp only[KX.now,Option.map_eq_some_iff,Prod.mk.injEq]at hn
    obtain⟨o,ho,rfl,rfl⟩:=hn
    have hsole:sole=false:=by cases sole with|true=>exact absurd rfl hl|false=>rfl
    subst hsole
    intro hc hsel hD hp W ds hS hM
    simp only[NM,Bool.and_eq_true,List.contains_iff_mem]at hc
    have hne:Region.ready .any ops' listed≠ []:= λh0=>by rw[h0]at hc;simp at hc
    have hH:DD sb es W:=Jp hE hS (hp hne)
    refine QN hD ho hload hsel hc.2 hc.1 (v:=v) ⟨Ft hload,Or.inl ⟨hw,λW' hW'=> ?_⟩⟩ hH ?_
    ·rw[CH];exact hv W' hW'
    rw[CZ]
    exact hA rfl hsel (Bs hD hc.1) (λ_=>hp hne) W ds hS hM
theorem AtX.value(hE:ExX B es){s:KX}{op:Oper}{ops:Array Oper}{v:Value}(hn:s.now=some (op,ops))(hd:Bb op=false)
 (hv:(Region.wanted op (yielded ops s.tmps)=true/\ ∀W,(execOp s.ev op).run P W=.ok (.value v) W)∨(Region.wanted op (yielded ops s.tmps)=false/\v=undef))
 (hA:AtX P f m B es (s.adv op v)):AtX P f m B es s:=by
 by_cases hl:s.loud=true
 ·refine AtX.loud hE hn hl λW ds hS hM hK i hi K hKK _=> ?_
  rcases hv with⟨hw,hv⟩|⟨hw,rfl⟩
  ·refine Dq hi hw hd ?_
   rw[CH]
   show N0 P op K _ ((execOp s.ev op).run P W)
   rw[hv W]
   show K ((Act.mk s.tmps (mk m ds)).put op.dst v) W
   rw[CZ]
   exact hKK _ _ _ _ _ W hA hS hM hK
  refine SF hi hw ?_
  rw[CZ]
  exact hKK _ _ _ _ _ W hA hS hM hK
 obtain⟨todo,tmps,bs,gs,rs,os,md⟩:=s
 cases md with
 |ctl=>simp[KX.now]at hn
 |ord ops rest=>exact absurd rfl hl
 |drw n ops' listed cur sb=>
  cases cur with
  |none=>simp[KX.now]at hn
  |some c=>
   obtain⟨i,sole⟩:=c
   cases n with
   |zero=>simp[KX.now]at hn
   |succ n=>
    simp only[KX.now,Option.map_eq_some_iff,Prod.mk.injEq]at hn
    obtain⟨o,ho,rfl,rfl⟩:=hn
    have hsole:sole=false:=by cases sole with|true=>exact absurd rfl hl|false=>rfl
    subst hsole
    intro hc hsel hD hp W ds hS hM
    simp only[NM,Bool.and_eq_true,List.contains_iff_mem]at hc
    have hne:Region.ready .any ops' listed≠ []:= λh0=>by rw[h0]at hc;simp at hc
    have hH:DD sb es W:=Jp hE hS (hp hne)
    refine OD hD ho hsel hc.2 hc.1 (v:=v) ⟨hd,hv.imp (λh=>⟨h.1,λW' _=> ?_⟩) id⟩ hH ?_
    ·rw[CH];exact h.2 W'
    rw[CZ]
    exact hA rfl hsel (Bs hD hc.1) (λ_=>hp hne) W ds hS hM
theorem Gc{bs:AD}{gs:BN}{rs':Aw}{os:DV}{tmps:Array Value}{W:World}(hS:Sx B W bs gs rs' os): ∀(rs:List ResultVar)(ks:List Nat){p q:Prop}{vs:List Value},Ew P bs tmps rs ks p=some (vs,q)->q->
 p/\(rs.mapM (EH tmps)).run P W=.ok vs W:=by
 intro rs
 induction rs with
 |nil=>
  intro ks p q vs h hq
  simp only[Ew,Option.some.injEq,Prod.mk.injEq]at h
  obtain⟨rfl,rfl⟩:=h
  exact⟨hq,rfl⟩
 |cons r rs ih=>
  intro ks p q vs h hq
  cases r with
  |tmp t=>
   simp only[Ew,Option.map_eq_some_iff,Prod.mk.injEq]at h
   obtain⟨⟨vs',q'⟩,h1,rfl,rfl⟩:=h
   obtain⟨hp,hr⟩:=ih ks h1 hq
   refine⟨hp,?_⟩
   rw[List.mapM_cons,Sem.run_bind]
   show((rs.mapM (EH tmps)>>= λx=>pure (tmps.getD t undef::x)):Sem (List Value)).run P W=_
   rw[Sem.run_bind,hr]
   rfl
  |cell a t=>
   cases ks with
   |nil=>simp[Ew]at h
   |cons k ks=>
    simp only[Ew]at h
    split at h
    ·rename_i b cs hb
     split at h
     ·rename_i v q1 hx
      simp only[Option.map_eq_some_iff,Prod.mk.injEq]at h
      obtain⟨⟨vs',q'⟩,h1,rfl,rfl⟩:=h
      obtain⟨hp,hr⟩:=ih ks h1 hq
      have hrun:=Cc (W:=W) hx hp.1 (λi v hv=>(hS.blk _ (List.mem_of_getElem? hb)).2.2.2 i v hv)
      refine⟨hp.2,?_⟩
      have h1:(EH tmps (.cell a t)).run P W=.ok v W:=by
       have ha: ∃ad,tmps.getD a undef=.pointer (some ad):=by
        unfold Gx at hx
        split at hx
        ·exact⟨_,by assumption⟩
        cases hx
       obtain⟨ad,ha⟩:=ha
       rw[ha]at hrun
       show(asAddr (tmps.getD a undef)>>= λx=>loadVar t x).run P W=_
       rw[ha]
       exact hrun
      rw[List.mapM_cons,Sem.run_bind,h1]
      show((rs.mapM (EH tmps)>>= λx=>pure (v::x)):Sem (List Value)).run P W=_
      rw[Sem.run_bind,hr]
      rfl
     cases h
    cases h
theorem UM{tmps:Array Value}{ds:List Deferred}{c:Operand}{t:Bool}(h:Act.eval ⟨tmps,[]⟩ c=.bool t):Act.eval ⟨tmps,ds⟩ c=.bool t:=by rw[M6];exact h
theorem Ny{tmps:Array Value}{k k':List Item}{md:Md}{bs:AD}{gs:BN}{rs:Aw}{os:DV}(h:ctl tmps k=some (k',md))(hA:AtX P f m B es ⟨k',tmps,bs,gs,rs,os,md⟩):AtX P f m B es ⟨k,tmps,bs,gs,rs,os,.ctl⟩:=by
 intro W ds hS hM
 have hB:Fu P (m.fin P f):=Aim.back
 unfold ctl at h
 split at h
 ·obtain⟨rfl,rfl⟩:=Prod.mk.inj (Option.some.inj h);exact AtG.step hB (λ_ _ _=>stepR_skip) (hA W ds hS hM)
 ·obtain⟨rfl,rfl⟩:=Prod.mk.inj (Option.some.inj h);exact AtG.step hB (λ_ _ _=>stepR_label) (hA W ds hS hM)
 ·obtain⟨rfl,rfl⟩:=Prod.mk.inj (Option.some.inj h);exact AtG.step hB (λ_ _ _=>stepR_inBlock) (hA W ds hS hM)
 ·obtain⟨rfl,rfl⟩:=Prod.mk.inj (Option.some.inj h)
  exact AtG.step hB (λ_ _ _=>step_lone_go (by simp[stepG,stepG.exec,Frame.atR])) (hA W ds hS hM)
 ·obtain⟨rfl,rfl⟩:=Prod.mk.inj (Option.some.inj h);exact AtG.step hB (λ_ _ _=>stepR_seq) (hA W ds hS hM)
 ·split at h
  ·rename_i hc
   obtain⟨rfl,rfl⟩:=Prod.mk.inj (Option.some.inj h)
   exact AtG.step hB (λ_ _ _=>stepR_cond (t:=true) (UM hc)) (hA W ds hS hM)
  ·rename_i hc
   obtain⟨rfl,rfl⟩:=Prod.mk.inj (Option.some.inj h)
   exact AtG.step hB (λ_ _ _=>stepR_cond (t:=false) (UM hc)) (hA W ds hS hM)
  cases h
 ·obtain⟨rfl,rfl⟩:=Prod.mk.inj (Option.some.inj h);exact AtG.step hB (λ_ _ _=>stepR_block) (hA W ds hS hM)
 ·obtain⟨rfl,rfl⟩:=Prod.mk.inj (Option.some.inj h)
  exact AtG.step hB (λ_ _ _=>step_lone_go (by simp[stepG,stepG.exec,Frame.atR])) (hA W ds hS hM)
 ·obtain⟨rfl,rfl⟩:=Prod.mk.inj (Option.some.inj h);exact AtG.step hB (λ_ _ _=>stepR_loop) (hA W ds hS hM)
 ·obtain⟨rfl,rfl⟩:=Prod.mk.inj (Option.some.inj h);exact AtG.step hB (λ_ _ _=>stepR_inLoop) (hA W ds hS hM)
 ·obtain⟨k1,h1,h2⟩:=Option.map_eq_some_iff.1 h
  obtain⟨rfl,rfl⟩:=Prod.mk.inj h2
  exact AtG.step hB (λ_ _ _=>stepR_exit h1) (hA W ds hS hM)
 ·obtain⟨k1,h1,h2⟩:=Option.map_eq_some_iff.1 h
  obtain⟨rfl,rfl⟩:=Prod.mk.inj h2
  exact AtG.step hB (λ_ _ _=>stepR_goto h1) (hA W ds hS hM)
 ·obtain⟨rfl,rfl⟩:=Prod.mk.inj (Option.some.inj h)
  exact AtG.region hB (hA W ds hS hM)
 cases h
theorem Mq{b:Nat}{dz:Bool}{α:Type}{gs:BN}{rs:Aw}{os:DV}(hdz:dz=true->gs=[])(e:Sem α): ∀{W:World}{bs:AD}{k:Nat}{cs cs':List Value}{p q:Prop}{x:α},
 DG P b dz e cs p=some (x,cs',q)->q->Sx B W bs gs rs os->bs[k]? =some (b,cs)-> ∃W',e.run P W=.ok x W'/\Sx B W' (bs.set k (b,cs')) gs rs os/\BelX ⟨W,λi=>i=b⟩ W':=by
 induction e with
 |pure a=>
  intro W bs k cs cs' p q x h _ hS hk
  simp only[DG,Option.some.injEq,Prod.mk.injEq]at h
  obtain⟨rfl,rfl,_⟩:=h
  refine⟨W,rfl,?_,BelX.refl⟩
  obtain⟨hkl,hv⟩:=List.getElem?_eq_some_iff.1 hk
  rw[<-hv,List.set_getElem_self hkl]
  exact hS
 |load md a kk ih=>
  intro W bs k cs cs' p q x h hq hS hk
  obtain⟨bl,o,sp⟩:=a
  cases sp with
  |some _=>simp[DG]at h
  |none=>
   simp only[DG]at h
   split at h
   ·rename_i v hv
    obtain rfl:=(Hi _ h hq).1
    have hc:=(hS.blk _ (List.mem_of_getElem? hk)).2.2.2 o v hv
    simp only[Sem.run,hc]
    exact ih _ h hq hS hk
   cases h
 |store md a v kk ih=>
  intro W bs k cs cs' p q x h hq hS hk
  obtain⟨bl,o,sp⟩:=a
  cases sp with
  |some _=>simp[DG]at h
  |none=>
   simp only[DG]at h
   split at h
   ·rename_i c0 cr h1
    split at h
    ·rename_i hcond
     simp only[Bool.and_eq_true,Bool.or_eq_true,decide_eq_true_eq]at hcond
     obtain rfl:=(Hi _ h hq).1
     obtain⟨_,_,hfz,hcs⟩:=hS.blk _ (List.mem_of_getElem? hk)
     have hc:=hcs o _ (List.getElem?_eq_getElem hcond.2)
     rw[IH h1 hc (hfz o)]
     have hS':=hS.set k o hk hcond.2 (hcond.1.imp hdz id) v
     have hkl:k<bs.length:=(List.getElem?_eq_some_iff.1 hk).1
     obtain⟨W',hr,hS2,hb2⟩:=ih h hq hS' (by rw[List.getElem?_set,if_pos rfl,if_pos hkl])
     have hb1:=JJ W bl o v
     refine⟨W',hr,by rw[List.set_set]at hS2;exact hS2,?_⟩
     exact hb1.change hb2 (λi _ e=>Or.inr e)
    cases h
   cases h
 |program kk ih=>intro W bs k cs cs' p q x h hq hS hk;simp only[DG]at h;simp only[Sem.run];exact ih _ h hq hS hk
 |mark md k ih=>intro W bs k cs cs' p q x h hq hS hk;simp only[DG]at h;simp only[Sem.run];exact ih h hq hS hk
 |_=>intro W bs k cs cs' p q x h;simp[DG]at h
theorem Kc{s:KX}{op:Oper}{t:TypeId}{x:Operand}{W:World}{v:Value}(ho:op.op=.load t x)(h:(Instr.loadAt t (s.ev x)).run P W=.ok v W):(execOp s.ev op).run P W=.ok (.value v) W:=by
 unfold execOp
 simp only[ho]
 rw[Sem.run_bind,h]
 rfl
theorem Ju(hm:P.follows .mixedOrders=true)(hE:ExX B es)(i:IX)(s:KX){K:KX->Prop}(h:Cx P m B es i s K)(hK: ∀s',K s'->AtX P f m B es s'):AtX P f m B es s:=by
 have hB:Fu P (m.fin P f):=Aim.back
 cases i with
 |c=>
  obtain⟨todo,tmps,bs,gs,rs,os,md⟩:=s
  simp only[Cx]at h
  split at h
  ·split at h
   ·rename_i k md' hc
    exact Ny hc (hK _ h)
   exact h.elim
  ·intro W ds hS hM
   exact hK _ h W ds hS hM
  ·split at h
   ·rename_i hr
    intro hc hsel hD hp W ds hS hM
    exact ID hr (hK _ h W ds hS hM) _
   exact h.elim
  exact h.elim
 |d X=>
  obtain⟨todo,tmps,bs,gs,rs,os,md⟩:=s
  simp only[Cx]at h
  split at h
  ·split at h
   ·rename_i hsel
    intro W ds hS hM
    exact AtG.regionAny hB hm (hK _ h rfl hsel Hc (λ_=>Jn X 0 _) W.drew ds hS.drew (hM.call (AP (Below.refl _ _))))
   exact h.elim
  exact h.elim
 |«at» i sole=>
  obtain⟨todo,tmps,bs,gs,rs,os,md⟩:=s
  simp only[Cx]at h
  split at h
  ·split at h
   ·rename_i n ops listed sb hc
    intro _ hsel hD hp W ds hS hM
    cases sole with
    |true=>
     simp only[if_true,decide_eq_true_eq]at hc
     have:=hK _ h (by simp[NM,hc]) hsel hD hp W ds hS hM _ rfl
     refine⟨λh0=>(by rw[hc]at h0;cases h0),λj hj=> ?_⟩
     rw[hc,List.mem_singleton]at hj
     subst hj
     exact this
    |false=>exact hK _ h hc hsel hD hp W ds hS hM
   exact h.elim
  exact h.elim
 |setv sl v=>
  obtain⟨todo,tmps,bs,gs,rs,os,md⟩:=s
  simp only[Cx]at h
  split at h
  ·rename_i u hu
   obtain⟨rfl,h⟩:=h
   have key:tmps.setIfInBounds sl u=tmps:=D8 hu
   have:=hK _ h
   rwa[key]at this
  exact h.elim
 |setc k i v=>
  obtain⟨todo,tmps,bs,gs,rs,os,md⟩:=s
  simp only[Cx]at h
  split at h
  ·rename_i b cs hb
   split at h
   ·rename_i u hu
    obtain⟨rfl,h⟩:=h
    have h1:cs.set i u=cs:=by
     obtain⟨hl,he⟩:=List.getElem?_eq_some_iff.1 hu
     rw[<-he];exact List.set_getElem_self hl
    have h2:bs.set k (b,cs.set i u)=bs:=by
     rw[h1]
     obtain⟨hl,he⟩:=List.getElem?_eq_some_iff.1 hb
     rw[<-he];exact List.set_getElem_self hl
    have:=hK _ h
    rwa[h2]at this
   exact h.elim
  exact h.elim
 |setb k cs'=>
  obtain⟨todo,tmps,bs,gs,rs,os,md⟩:=s
  simp only[Cx]at h
  split at h
  ·rename_i b cs hb
   obtain⟨rfl,h⟩:=h
   have h2:bs.set k (b,cs)=bs:=by
    obtain⟨hl,he⟩:=List.getElem?_eq_some_iff.1 hb
    rw[<-he];exact List.set_getElem_self hl
   have:=hK _ h
   rwa[h2]at this
  exact h.elim
 |v=>
  simp only[Cx]at h
  split at h
  ·rename_i op ops hn
   split at h
   ·rename_i v hw hx hd
    exact AtX.value hE hn hd (Or.inl ⟨hw,λW=>BQ _ hx⟩) (hK _ h)
   exact h.elim
  exact h.elim
 |u=>
  simp only[Cx]at h
  split at h
  ·rename_i op ops hn
   split at h
   ·rename_i hw hd
    exact AtX.value hE hn hd (Or.inr ⟨hw,rfl⟩) (hK _ h)
   exact h.elim
  exact h.elim
 |own k=>
  simp only[Cx]at h
  split at h
  ·rename_i op ops hn
   split at h
   ·rename_i b cs t x hw hb ho
    split at h
    ·rename_i v q hx
     exact AtX.look hE (by unfold DI;rw[ho]) hn hw (λW hW=>Kc ho (Cc hx h.1 (λi v hv=>hW.1 _ (List.mem_of_getElem? hb) i v hv))) (hK _ h.2)
    exact h.elim
   exact h.elim
  exact h.elim
 |ext k=>
  simp only[Cx]at h
  split at h
  ·rename_i op ops hn
   split at h
   ·rename_i b cs t x hw hb ho
    split at h
    ·rename_i v q hx
     exact AtX.look hE (by unfold DI;rw[ho]) hn hw (λW hW=>Kc ho (Cc hx h.1 (λi v hv=>hW.2 _ (List.mem_of_getElem? hb) i v hv))) (hK _ h.2)
    exact h.elim
   exact h.elim
  exact h.elim
 |ld v=>
  simp only[Cx]at h
  split at h
  ·rename_i op ops hn
   split at h
   ·rename_i hw hload
    exact AtX.look hE hload hn hw h.1 (hK _ h.2)
   exact h.elim
  exact h.elim
 |put k=>
  simp only[Cx]at h
  split at h
  ·rename_i op ops hn hl
   split at h
   ·rename_i b cs hw hb hd
    split at h
    ·rename_i cs' q hx
     refine AtX.loud hE hn hl λW ds hS hM _ i hi K _ hPP=> ?_
     obtain⟨W',hr,hS',hY⟩:=Mq (P:=P) (B:=B) (gs:=s.gs) (λhe=>List.isEmpty_iff.1 he) _ hx h.1 hS hb
     refine Dq hi hw hd ?_
     rw[CH]
     show N0 P op K _ ((execOp s.ev op).run P W)
     rw[hr]
     show K ((Act.mk s.tmps (mk m ds)).put op.dst undef) W'
     rw[CZ]
     exact hPP _ _ _ _ _ W' h.2.1 (hK _ h.2.2) hS' (hM.turn hS hb hY)
    exact h.elim
   exact h.elim
  exact h.elim
 |putp k cs'=>
  simp only[Cx]at h
  split at h
  ·rename_i op ops hn hl
   split at h
   ·rename_i b cs hw hb hd
    refine AtX.loud hE hn hl λW ds hS hM _ i hi K _ hPP=> ?_
    obtain⟨W',hr,hY,hS'⟩:=h.1 W hS
    refine Dq hi hw hd ?_
    rw[CH]
    show N0 P op K _ ((execOp s.ev op).run P W)
    rw[hr]
    show K ((Act.mk s.tmps (mk m ds)).put op.dst undef) W'
    rw[CZ]
    exact hPP _ _ _ _ _ W' h.2.1 (hK _ h.2.2) hS' (hM.mem hS hY)
   exact h.elim
  exact h.elim
 |call v=>
  simp only[Cx]at h
  split at h
  ·rename_i op ops hn hl
   split at h
   ·rename_i g args hw hx hd
    refine AtX.loud hE hn hl λW ds hS hM hK' i hi K hKK _=> ?_
    refine Dq hi hw hd ?_
    rw[CH]
    show N0 P op K _ ((execOp s.ev op).run P W)
    rw[BQ (W:=W) _ hx]
    refine Calls.mono (h.1 W hS) ?_
    rintro e w' ⟨rfl,hb⟩
    refine⟨v,rfl,?_⟩
    rw[CZ]
    exact hKK _ _ _ _ _ _ (hK _ h.2) (hS.call hb) (hM.call hb) hK'
   exact h.elim
  exact h.elim
 |eq b=>
  simp only[Cx]at h
  split at h
  ·rename_i op ops hn
   split at h
   ·rename_i t x y yt hw ho
    split at h
    ·rename_i xs ys u hx hy hg
     refine AtX.value hE hn (by unfold Bb;rw[ho]) (Or.inl ⟨hw,λW=> ?_⟩) (hK _ h.2)
     unfold execOp
     simp only[ho]
     show((eqGuard .eql t x y (s.ev x) (s.ev y)>>= λ_=>binOp .eql t (s.ev x) (s.ev y))>>= λv=>(pure (.value v):Sem Next)).run P W=_
     rw[Sem.run_bind,Sem.run_bind,BQ _ hg,hx,hy]
     show(((Op.equalIn 10000 t (.agg xs) (.agg ys)>>= λr=>pure (Value.bool r)):Sem Value).run P W).andThen _=_
     rw[Sem.run_bind,h.1 W]
     rfl
    exact h.elim
   ·rename_i t x y yt hw ho
    split at h
    ·rename_i xs ys u hx hy hg
     refine AtX.value hE hn (by unfold Bb;rw[ho]) (Or.inl ⟨hw,λW=> ?_⟩) (hK _ h.2)
     unfold execOp
     simp only[ho]
     show((eqGuard .neq t x y (s.ev x) (s.ev y)>>= λ_=>binOp .neq t (s.ev x) (s.ev y))>>= λv=>(pure (.value v):Sem Next)).run P W=_
     rw[Sem.run_bind,Sem.run_bind,BQ _ hg,hx,hy]
     show(((Op.equalIn 10000 t (.agg xs) (.agg ys)>>= λr=>pure (Value.bool (!r))):Sem Value).run P W).andThen _=_
     rw[Sem.run_bind,h.1 W]
     rfl
    exact h.elim
   exact h.elim
  exact h.elim
 |fact v=>
  simp only[Cx]at h
  split at h
  ·rename_i op ops hn
   split at h
   ·rename_i hw hd
    exact AtX.value hE hn hd (Or.inl ⟨hw,λW=>h.1 W⟩) (hK _ h.2)
   exact h.elim
  exact h.elim
 |br j=>
  obtain⟨todo,tmps,bs,gs,rs,os,md⟩:=s
  simp only[Cx]at h
  split at h
  ·rename_i k l r l' hj hro
   obtain⟨rfl,hr,h⟩:=h
   intro W ds hS hM
   have hq:=(hS.ob _ (List.mem_of_getElem? hj)).2
   refine AtG.step hB (λb cs hb=>stepR_beginRound (hb.trans hro) (run_beginRound hq hr)) ?_
   exact hK _ h _ ds (hS.loop hj _) (hM.loop hS hj _)
  exact h.elim
 |fg l=>
  obtain⟨todo,tmps,bs,gs,rs,os,md⟩:=s
  have hsub: ∀W,Sx B W bs gs rs os->Sx B W bs (l.filterMap (gs[·]?)) rs os:= λW hS=>⟨hS.bx,hS.blk,hS.nd,λg hg=>by
   obtain⟨j,_,hj⟩:=List.mem_filterMap.1 hg
   exact hS.bg g (List.mem_of_getElem? hj),hS.rw,hS.ob,hS.on⟩
  have h':=hK _ h
  cases md with
  |ctl=>exactλW ds hS hM=>h' W ds (hsub W hS) hM
  |ord ops rest=>exactλW ds hS hM=>h' W ds (hsub W hS) hM
  |drw n ops listed cur sb=>exactλa b c d W ds hS hM=>h' a b c d W ds (hsub W hS) hM
theorem IM(hm:P.follows .mixedOrders=true)(hE:ExX B es): ∀(l:List IX)(s:KX){K:KX->Prop},L4 P m B es l s K->(∀s',K s'->AtX P f m B es s')->AtX P f m B es s
 | [],s,_,h,hK=>hK s h
 |i::l,s,_,h,hK=>Ju hm hE i s h λs' h'=>IM hm hE l s' h' hK
end
end
end Go.Proofs.YtikajapjkdloaaaGreatDoor
