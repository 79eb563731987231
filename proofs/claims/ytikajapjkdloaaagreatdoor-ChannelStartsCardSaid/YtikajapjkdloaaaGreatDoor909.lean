/- The second engine, fourth part: the state of a walk, its plan, and the condition that a plan leaves. -/
import Derived.Test.YtikajapjkdloaaaGreatDoor908
namespace Go.Proofs.YtikajapjkdloaaaGreatDoor
section
open Go.RowKit
inductive Aim where
 |call (R:Ending->World->Prop)
 |round (l:Nat) (R:Value->World->Prop)
 |door (dl:List Deferred) (D:List Nat->Array Value->World->Prop)
 |late (R:Ending->World->Prop)
def Aim.ro:Aim->Option Nat
 | .round l _=>some l
 |_=>none
def Aim.dl:Aim->List Deferred
 | .door dl _=>dl
 |_=>[]
def Aim.fin(P:Program)(f:FuncId):Aim->CallKind->List Frame->Machine->Prop
 | .call R=>FA P f R
 | .round _ R=>Iv P R
 | .door dl D=>Gt P f dl D
 | .late R=>TA P R
theorem Aim.back{P:Program}{f:FuncId}: ∀{m:Aim},Fu P (m.fin P f)
 | .call _=>FH
 | .round _ _=>Nz
 | .door _ _=>Hs
 | .late _=>LG
def mk(m:Aim)(ds:List Nat):List Deferred:=m.dl++Fv ds
structure SD where
 tmps:Array Value
 bs:AD
 gs:BN
 rs:Aw
 os:DV
structure KX where
 todo:List Item
 tmps:Array Value
 bs:AD
 gs:BN
 rs:Aw
 os:DV
 md:Md
def KX.sd(s:KX):SD:=⟨s.tmps,s.bs,s.gs,s.rs,s.os⟩
def SD.at(x:SD)(k:List Item):KX:=⟨k,x.tmps,x.bs,x.gs,x.rs,x.os,.ctl⟩
inductive IX where
 |c
 |d (X:List Nat)
 |at(i:Nat) (sole:Bool)
 |setv (s:Nat) (v:Value)
 |setc (k i:Nat) (v:Value)
 |setb (k:Nat) (cs:List Value)
 |v
 |u
 |own (k:Nat)
 |ext (k:Nat)
 |ld (v:Value)
 |put (k:Nat)
 |putp (k:Nat) (cs:List Value)
 |call (v:Value)
 |eq (b:Bool)
 |fact (v:Value)
 |br (j:Nat)
 |fg (l:List Nat)
def IX.inReg:IX->Bool
 | .c=>false
 | .d _=>false
 | .br _=>false
 |_=>true
inductive RX where
 |done
 |s (l:List IX) (o:RX)
 |split(s:Nat) (t e:RX)
 |new (k:Nat->RX)
 |big (z:Int) (k:Option Addr->Nat->RX)
 |fork (i j:Nat) (a b:RX)
 |mut (S:(Nat->Nat)->Value×AD×Aw) (k:(Nat->Nat)->RX)
inductive OX:Type 1 where
 |fin
 |s (l:List IX) (o:OX)
 |split(s:Nat) (t e:OX)
 |gen (s:Nat) (k:Int->OX)
 |new (k:Nat->OX)
 |big (z:Int) (k:Option Addr->Nat->OX)
 |meet (S:(Nat->Nat)->(Nat->Option Addr×Nat)->SD) (t:RX) (o:(Nat->Nat)->(Nat->Option Addr×Nat)->OX)
 |loop {σ:Type} (I:σ->Prop) (μ:σ->Nat) (S:σ->SD) (o:σ->OX)
 |cut {σ:Type} (T:List Item) (I:σ->Prop) (S:σ->SD) (t:OX) (o:σ->OX)
 |again (d:Nat)
 |mut (S:(Nat->Nat)->Value×AD×Aw) (k:(Nat->Nat)->OX)
 |yld (S:(Nat->Nat)->Value×AD×Aw) (k:(Nat->Nat)->OX)
 |app (tgt:Option Nat) (own:Bool) (src:Nat) (news:List Value) (k:Nat->Nat->OX)
 |range (S:(Nat->Nat)->Value×AD×Aw) (k:(Nat->Nat)->OX)
 |know (p:Prop) (k:OX)
 |ret (ks:List Nat)
 |endr (j:Nat)
 |rest
def KX.now(s:KX):Option (Oper×Array Oper):=
 match s.md with
 | .ord ops (i::_)=>(ops[i]?).map (·,ops)
 | .drw (_+1) ops _ (some (i,_)) _=>(ops[i]?).map (·,ops)
 |_=>none
def KX.loud(s:KX):Bool:=
 match s.md with
 | .ord .. =>true
 | .drw _ _ _ (some (_,sole)) _=>sole
 |_=>false
def KX.next(s:KX):Md:=
 match s.md with
 | .ord ops (_::rest)=>.ord ops rest
 | .drw (n+1) ops listed (some (i,_)) sb=>.drw n ops (listed.setIfInBounds i true) none sb
 |m=>m
def KX.nextP(s:KX)(bs:AD):Md:=
 match s.md with
 | .ord ops (_::rest)=>.ord ops rest
 | .drw (n+1) ops listed (some (i,_)) sb=>.drw n ops (listed.setIfInBounds i true) none (if Bv ops i then bs else sb)
 |m=>m
def KX.adv(s:KX)(o:Oper)(v:Value):KX:=⟨s.todo,DM s.tmps o.dst v,s.bs,s.gs,s.rs,s.os,s.next⟩
def KX.wr(s:KX)(o:Oper)(v:Value)(bs:AD)(rs:Aw):KX:=⟨s.todo,DM s.tmps o.dst v,bs,s.gs,rs,s.os,s.nextP bs⟩
def KX.ev(s:KX):Operand->Value:=Act.eval ⟨s.tmps,[]⟩
def KX.blocks(s:KX):AD:=
 match s.md with
 | .drw _ _ _ (some (_,false)) sb=>sb
 |_=>s.bs
def Gz:AD->AD->Prop
 | [],_=>True
 |x::r,[]=>x.2=[]/\Gz r []
 |x::r,y::s=>(x.2=[]∨y=x)/\Gz r s
def KX.may(s:KX)(bs:AD):Prop:=
 match s.md with
 | .ord .. =>True
 | .drw _ ops _ (some (i,true)) sb=>if Bv ops i then True else Gz sb bs
 |_=>False
def ON(x:SD)(s:KX):Prop:=
 s.tmps=x.tmps/\(∃t,s.bs=x.bs++t)/\x.gs⊆s.gs/\(∀r∈x.rs,r∈s.rs)/\x.rs.all (λr=>decide (r.1<x.bs.length))=true/\s.os=x.os
def OR(op:Oper):Option (Operand×Operand×TypeId):=
 match op.op with
 | .call ⟨.builtin .append,args,tys⟩=>match args.toList,tys.toList with
   | [a,x],[t,t']=>if t=t' then some (a,x,t)else none
   |_,_=>none
 |_=>none
def Fg(gs:BN)(cap:Nat)(xs:List Value):Prop:=
 match gs with
 | []=>True
 |_=>match xs with
  |v::_=>CI v=true
  | []=>cap=0
def BF(cs:List Value)(o n:Nat):List Value:=(cs.drop o).take n
section
variable (P:Program) (f:FuncId) (m:Aim) (B:Base) (es:AD)
def ExX(B:Base)(es:AD):Prop:= ∀x∈es,x.1<B.w.heap.size/\ ¬B.X x.1/\ ∀i v,x.2[i]? =some v->B.w.cell? ⟨x.1,i,none⟩=some v
def CallVX(bs:AD)(gs:BN)(rs:Aw)(os:DV)(g:FuncId)(args:Array Value)(v:Value):Prop:=
 ∀W,Sx B W bs gs rs os->Calls P g args W λe w'=>e=.returned v/\Below W.heap.size W w'
def Nb(bs:AD)(gs:BN)(rs:Aw)(os:DV)(g:FuncId)(args:Array Value)(z:Int):Prop:=
 ∀W,Sx B W bs gs rs os->Calls P g args W λe w'=> ∃A c,e=.returned (.agg #[.bool (sg z),.slice A (nd z) c])/\RB w' A c z/\Below W.heap.size W w'
def CallMX(bs:AD)(gs:BN)(rs:Aw)(os:DV)(g:FuncId)(args:Array Value)(S:(Nat->Nat)->Value×AD×Aw):Prop:=
 ∀W,Sx B W bs gs rs os->Calls P g args W λe w'=> ∃ρ,e=.returned (S ρ).1/\Mem bs os W w'/\Sx B w' (S ρ).2.1 gs (S ρ).2.2 os
def CallYX(bs:AD)(gs:BN)(rs:Aw)(os:DV)(x:Sem Next)(S:(Nat->Nat)->Value×AD×Aw):Prop:=
 ∀W,Sx B W bs gs rs os-> ∃l g tmps assign body,x.run P W=.ok (.round l g tmps assign body) W/\Rounds P l g tmps assign body W λv w'=> ∃ρ,v=(S ρ).1/\Mem bs os W w'/\Sx B w' (S ρ).2.1 gs (S ρ).2.2 os
def VR(sb:AD)(x:Sem Next)(v:Value):Prop:= ∀W,DD sb es W->x.run P W=.ok (.value v) W
def WN(bs:AD)(gs:BN)(rs:Aw)(os:DV)(x:Sem Next)(bs':AD):Prop:= ∀W,Sx B W bs gs rs os-> ∃W',x.run P W=.ok .skip W'/\Mem bs os W W'/\Sx B W' bs' gs rs os
def AO(R:Ending->World->Prop)(bs:AD)(gs:BN)(rs:Aw)(os:DV)(v:Value):Prop:= ∀W,Sx B W bs gs rs os->R (.returned v) W
def OY(D:List Nat->Array Value->World->Prop)(bs:AD)(gs:BN)(rs:Aw)(os:DV)(tmps:Array Value):Prop:= ∀W ds,Sx B W bs gs rs os->Mk B W ds->D ds tmps W
def II(R:Value->World->Prop)(bs:AD)(gs:BN)(rs:Aw)(os:DV)(v:Value):Prop:= ∀W,Sx B W bs gs rs os->R v W
def Cx(i:IX)(s:KX)(K:KX->Prop):Prop:=
 match i with
 | .c=>
   match s.md with
   | .ctl=>match ctl s.tmps s.todo with
     |some (k,md)=>K ⟨k,s.tmps,s.bs,s.gs,s.rs,s.os,md⟩
     |none=>False
   | .ord _ []=>K ⟨s.todo,s.tmps,s.bs,s.gs,s.rs,s.os,.ctl⟩
   | .drw _ ops listed none _=>match Region.ready .any ops listed with
     | []=>K ⟨s.todo,s.tmps,s.bs,s.gs,s.rs,s.os,.ctl⟩
     |_=>False
   |_=>False
 | .d X=>
   match s.md,s.todo with
   | .ctl,.code (.region _ ops true)::k=>match Region.noSelect ops with
     |true=>K ⟨k,s.tmps,s.bs,s.gs,s.rs,s.os,.drw ops.size ops (Array.replicate ops.size false) none (Fm X 0 s.bs)⟩
     |false=>False
   |_,_=>False
 | .at i sole=>
   match s.md with
   | .drw (n+1) ops listed none sb=>
     match(if sole then decide (Region.ready .any ops listed=[i])else NM ops listed (some (i,false)))with
     |true=>K ⟨s.todo,s.tmps,s.bs,s.gs,s.rs,s.os,.drw (n+1) ops listed (some (i,sole)) sb⟩
     |false=>False
   |_=>False
 | .setv sl v=>
   match s.tmps[sl]? with
   |some u=>u=v/\K ⟨s.todo,s.tmps.setIfInBounds sl v,s.bs,s.gs,s.rs,s.os,s.md⟩
   |none=>False
 | .setc k i v=>
   match s.bs[k]? with
   |some (b,cs)=>match cs[i]? with
    |some u=>u=v/\K ⟨s.todo,s.tmps,s.bs.set k (b,cs.set i v),s.gs,s.rs,s.os,s.md⟩
    |none=>False
   |none=>False
 | .setb k cs'=>
   match s.bs[k]? with
   |some (b,cs)=>cs=cs'/\K ⟨s.todo,s.tmps,s.bs.set k (b,cs'),s.gs,s.rs,s.os,s.md⟩
   |none=>False
 | .v=>
   match s.now with
   |some (op,ops)=>match Region.wanted op (yielded ops s.tmps),DJ P (execOp s.ev op),Bb op with
    |true,some (.value v),false=>K (s.adv op v)
    |_,_,_=>False
   |none=>False
 | .u=>
   match s.now with
   |some (op,ops)=>match Region.wanted op (yielded ops s.tmps),Bb op with
    |false,false=>K (s.adv op undef)
    |_,_=>False
   |none=>False
 | .own k=>
   match s.now with
   |some (op,ops)=>match Region.wanted op (yielded ops s.tmps),s.blocks[k]?,op.op with
    |true,some (b,cs),.load t x=>match Gx P b cs t (s.ev x)with
     |some (v,q)=>q/\K (s.adv op v)
     |none=>False
    |_,_,_=>False
   |none=>False
 | .ext k=>
   match s.now with
   |some (op,ops)=>match Region.wanted op (yielded ops s.tmps),es[k]?,op.op with
    |true,some (b,cs),.load t x=>match Gx P b cs t (s.ev x)with
     |some (v,q)=>q/\K (s.adv op v)
     |none=>False
    |_,_,_=>False
   |none=>False
 | .ld v=>
   match s.now with
   |some (op,ops)=>match Region.wanted op (yielded ops s.tmps),DI op with
    |true,true=>VR P es s.blocks (execOp s.ev op) v/\K (s.adv op v)
    |_,_=>False
   |none=>False
 | .put k=>
   match s.now,s.loud with
   |some (op,ops),true=>match Region.wanted op (yielded ops s.tmps),s.bs[k]?,Bb op with
    |true,some (b,cs),false=>match DG P b s.gs.isEmpty (execOp s.ev op) cs True with
     |some (.skip,cs',q)=>q/\s.may (s.bs.set k (b,cs'))/\K (s.wr op undef (s.bs.set k (b,cs')) s.rs)
     |_=>False
    |_,_,_=>False
   |_,_=>False
 | .putp k cs'=>
   match s.now,s.loud with
   |some (op,ops),true=>match Region.wanted op (yielded ops s.tmps),s.bs[k]?,Bb op with
    |true,some (b,_),false=>WN P B s.bs s.gs s.rs s.os (execOp s.ev op) (s.bs.set k (b,cs'))/\s.may (s.bs.set k (b,cs'))/\K (s.wr op undef (s.bs.set k (b,cs')) s.rs)
    |_,_,_=>False
   |_,_=>False
 | .call v=>
   match s.now,s.loud with
   |some (op,ops),true=>match Region.wanted op (yielded ops s.tmps),DJ P (execOp s.ev op),Bb op with
    |true,some (.enter g args),false=>CallVX P B s.bs s.gs s.rs s.os g args v/\K (s.adv op v)
    |_,_,_=>False
   |_,_=>False
 | .eq b=>
   match s.now with
   |some (op,ops)=>match Region.wanted op (yielded ops s.tmps),op.op with
    |true,.binOp .eql t x y _=>match s.ev x,s.ev y,DJ P (eqGuard .eql t x y (s.ev x) (s.ev y))with
     | .agg xs,.agg ys,some _=>Jv P t (.agg xs) (.agg ys) b/\K (s.adv op (.bool b))
     |_,_,_=>False
    |true,.binOp .neq t x y _=>match s.ev x,s.ev y,DJ P (eqGuard .neq t x y (s.ev x) (s.ev y))with
     | .agg xs,.agg ys,some _=>Jv P t (.agg xs) (.agg ys) b/\K (s.adv op (.bool !b))
     |_,_,_=>False
    |_,_=>False
   |none=>False
 | .fact v=>
   match s.now with
   |some (op,ops)=>match Region.wanted op (yielded ops s.tmps),Bb op with
    |true,false=>IJ P (execOp s.ev op) v/\K (s.adv op v)
    |_,_=>False
   |none=>False
 | .br j=>
   match s.md,s.todo,s.os[j]?,m.ro with
   | .ctl,.beginRound::k,some (l,r),some l'=>l=l'/\r.state=.ready/\K ⟨k,s.tmps,s.bs,s.gs,s.rs,s.os.set j (l,{r with state:=.busy}),.ctl⟩
   |_,_,_,_=>False
 | .fg l=>K ⟨s.todo,s.tmps,s.bs,l.filterMap (s.gs[·]?),s.rs,s.os,s.md⟩
def L4:List IX->KX->(KX->Prop)->Prop
 | [],s,K=>K s
 |i::l,s,K=>Cx P m B es i s λs'=>L4 l s' K
def Ee:RX->KX->(KX->Prop)->Prop
 | .done,s,K=>
   match s.md with
   | .drw _ ops listed none _=>match Region.ready .any ops listed with
     | []=>K s
     |_=>False
   |_=>False
 | .s l o,s,K=>
   match l.all IX.inReg with
   |true=>L4 P m B es l s λs'=>Ee o s' K
   |false=>False
 | .split sl t e,s,K=>
   match s.tmps[sl]? with
   |some (.bool b)=>(b=true->Ee t ⟨s.todo,s.tmps.setIfInBounds sl (.bool true),s.bs,s.gs,s.rs,s.os,s.md⟩ K)/\(b=false->Ee e ⟨s.todo,s.tmps.setIfInBounds sl (.bool false),s.bs,s.gs,s.rs,s.os,s.md⟩ K)
   |_=>False
 | .new k,s,K=>
   match s.now,s.loud with
   |some (op,ops),true=>match Region.wanted op (yielded ops s.tmps),Ie P (execOp s.ev op),Bb op with
    |true,some (cs,t,kk),false=> ∀r,match kk r with
     |some (.value v)=>Ee (k r) ⟨s.todo,DM s.tmps op.dst v,s.bs++[(r,cs)],s.gs,s.rs++[(s.bs.length,t,cs.length)],s.os,s.next⟩ K
     |_=>False
    |_,_,_=>False
   |_,_=>False
 | .big z k,s,K=>
   match s.now,s.loud with
   |some (op,ops),true=>match Region.wanted op (yielded ops s.tmps),DJ P (execOp s.ev op),Bb op with
    |true,some (.enter g args),false=>Nb P B s.bs s.gs s.rs s.os g args z/\ ∀A c,Ee (k A c) ⟨s.todo,DM s.tmps op.dst (.agg #[.bool (sg z),.slice A (nd z) c]),s.bs,s.gs++[(A,c,z)],s.rs,s.os,s.next⟩ K
    |_,_,_=>False
   |_,_=>False
 | .fork i j a b,s,K=>
   match s.md with
   | .drw (n+1) ops listed none sb=>match decide (Region.ready .any ops listed=[i,j])with
     |true=>Ee a ⟨s.todo,s.tmps,s.bs,s.gs,s.rs,s.os,.drw (n+1) ops listed (some (i,true)) sb⟩ K/\Ee b ⟨s.todo,s.tmps,s.bs,s.gs,s.rs,s.os,.drw (n+1) ops listed (some (j,true)) sb⟩ K
     |false=>False
   |_=>False
 | .mut S k,s,K=>
   match s.now,s.loud with
   |some (op,ops),true=>match Region.wanted op (yielded ops s.tmps),DJ P (execOp s.ev op),Bb op with
    |true,some (.enter g args),false=>CallMX P B s.bs s.gs s.rs s.os g args S/\ ∀ρ,s.may (S ρ).2.1/\Ee (k ρ) (s.wr op (S ρ).1 (S ρ).2.1 (S ρ).2.2) K
    |_,_,_=>False
   |_,_=>False
def SH(s:KX)(own:Bool)(k:Nat):Option (Nat×List Value):=if own then s.bs[k]? else es[k]?
def Cq:OX->List (KX->Prop)->KX->Prop
 | .fin,_,_=>False
 | .s l o,Ls,s=>L4 P m B es l s (Cq o Ls)
 | .split sl t e,Ls,s=>
   match s.tmps[sl]? with
   |some (.bool b)=>(b=true->Cq t Ls ⟨s.todo,s.tmps.setIfInBounds sl (.bool true),s.bs,s.gs,s.rs,s.os,s.md⟩)/\(b=false->Cq e Ls ⟨s.todo,s.tmps.setIfInBounds sl (.bool false),s.bs,s.gs,s.rs,s.os,s.md⟩)
   |_=>False
 | .gen sl k,Ls,s=>
   match s.tmps[sl]? with
   |some (.int κ n)=> ∀x,x=n->Cq (k x) Ls ⟨s.todo,s.tmps.setIfInBounds sl (.int κ x),s.bs,s.gs,s.rs,s.os,s.md⟩
   |_=>False
 | .new k,Ls,s=>
   match s.now,s.loud with
   |some (op,ops),true=>match Region.wanted op (yielded ops s.tmps),Ie P (execOp s.ev op),Bb op with
    |true,some (cs,t,kk),false=> ∀r,match kk r with
     |some (.value v)=>Cq (k r) Ls ⟨s.todo,DM s.tmps op.dst v,s.bs++[(r,cs)],s.gs,s.rs++[(s.bs.length,t,cs.length)],s.os,s.next⟩
     |_=>False
    |_,_,_=>False
   |_,_=>False
 | .big z k,Ls,s=>
   match s.now,s.loud with
   |some (op,ops),true=>match Region.wanted op (yielded ops s.tmps),DJ P (execOp s.ev op),Bb op with
    |true,some (.enter g args),false=>Nb P B s.bs s.gs s.rs s.os g args z/\ ∀A c,Cq (k A c) Ls ⟨s.todo,DM s.tmps op.dst (.agg #[.bool (sg z),.slice A (nd z) c]),s.bs,s.gs++[(A,c,z)],s.rs,s.os,s.next⟩
    |_,_,_=>False
   |_,_=>False
 | .meet S t o,Ls,s=>
   Ee P m B es t s (λs'=> ∃ρ α,s'.sd=S ρ α)/\ ∀ρ α,Cq (o ρ α) Ls ((S ρ α).at s.todo)
 | .loop I μ S o,Ls,s=>
   match s.md with
   | .ctl=>(∃ξ,I ξ/\ON (S ξ) s)/\
    ∀ξ,I ξ->Cq (o ξ) ((λs'=>match s'.md with
     | .ctl=>s'.todo=s.todo/\ ∃ξ',I ξ'/\μ ξ'<μ ξ/\ON (S ξ') s'
     |_=>False)::Ls) ((S ξ).at s.todo)
   |_=>False
 | .cut T I S t o,Ls,s=>
   Cq t ((λs'=>match s'.md with
    | .ctl=>s'.todo=T/\ ∃ξ,I ξ/\ON (S ξ) s'
    |_=>False)::Ls) s/\ ∀ξ,I ξ->Cq (o ξ) Ls ((S ξ).at T)
 | .again d,Ls,s=>
   match Ls[d]? with
   |some L=>L s
   |none=>False
 | .mut S k,Ls,s=>
   match s.now,s.loud with
   |some (op,ops),true=>match Region.wanted op (yielded ops s.tmps),DJ P (execOp s.ev op),Bb op with
    |true,some (.enter g args),false=>CallMX P B s.bs s.gs s.rs s.os g args S/\ ∀ρ,s.may (S ρ).2.1/\Cq (k ρ) Ls (s.wr op (S ρ).1 (S ρ).2.1 (S ρ).2.2)
    |_,_,_=>False
   |_,_=>False
 | .yld S k,Ls,s=>
   match s.now,s.loud with
   |some (op,ops),true=>match Region.wanted op (yielded ops s.tmps),Bb op with
    |true,false=>CallYX P B s.bs s.gs s.rs s.os (execOp s.ev op) S/\ ∀ρ,s.may (S ρ).2.1/\Cq (k ρ) Ls (s.wr op (S ρ).1 (S ρ).2.1 (S ρ).2.2)
    |_,_=>False
   |_,_=>False
 | .app tgt own src news k,Ls,s=>
   match s.now,s.loud with
   |some (op,ops),true=>match Region.wanted op (yielded ops s.tmps),OR op with
    |true,some (x,y,t)=>match P.underlying t,SH es s own src,s.ev x,s.ev y with
     |some (.slice e),some (b2,cs2),.slice A n cap,.slice (some ⟨b2',o2,none⟩) mm _=>match P.info? e with
      |some i=>match i.zero,tgt with
       |some z,none=>
        (A=none/\n=0/\cap=0/\b2'=b2/\z.cells.size=i.size/\news=BF cs2 o2 (mm*i.size)/\news.length=mm*i.size/\0<mm/\mm<=maxLen/\mm*i.bytes<=140737488355328)/\
         ∀g' cap',mm<=cap'->cap'<=maxLen->s.may (s.bs++[(g',news)])/\Cq (k g' cap') Ls (s.wr op (.slice (some ⟨g',0,none⟩) mm cap') (s.bs++[(g',news)]) (s.rs++[(s.bs.length,e,cap'*i.size)]))
       |some z,some kk=>match s.bs[kk]? with
        |some (g,xs)=>
         (A=some ⟨g,0,none⟩/\(kk,e,cap*i.size)∈s.rs/\xs.length=n*i.size/\n<=cap/\cap<=maxLen/\Fg s.gs cap xs/\b2'=b2/\z.cells.size=i.size/\news=BF cs2 o2 (mm*i.size)/\news.length=mm*i.size/\
          (∀u∈news,u.oneCell'=true)/\n+mm<=maxLen/\(n+mm)*i.bytes<=140737488355328)/\
          ∀g' cap',n+mm<=cap'->cap'<=maxLen->s.may (s.bs.set kk (g',xs++news))/\Cq (k g' cap') Ls (s.wr op (.slice (some ⟨g',0,none⟩) (n+mm) cap') (s.bs.set kk (g',xs++news)) (Lb s.rs kk e (cap'*i.size)))
        |none=>False
       |_,_=>False
      |none=>False
     |_,_,_,_=>False
    |_,_=>False
   |_,_=>False
 | .range S k,Ls,s=>
   match s.md,s.todo,m.ro,m.dl with
   | .ctl,.code (.rangeFunc g ps assign body)::kk,none,[]=>
     (∀l D,match DJ P (resolve s.ev (rangeCall g l) 0)with
      |some d=>match DJ P (invoke d.target d.args)with
       |some (.enter gf args)=>CallMX P B s.bs s.gs s.rs (s.os++[(l,{state:=.ready,pending:=none,fn:=f,tmps:=s.tmps,params:=ps,assign:=assign,body:=body,defers:=D})]) gf args S
       |_=>False
      |none=>False)/\ ∀ρ,Cq (k ρ) Ls ⟨kk,s.tmps,(S ρ).2.1,s.gs,(S ρ).2.2,s.os,.ctl⟩
   |_,_,_,_=>False
 | .know p k,Ls,s=>p/\(p->Cq k Ls s)
 | .ret ks,_,s=>
   match s.md,P.funcs[f]?,m with
   | .ctl,some fn,.call R=>match s.todo with
     | .code .ret::_=>match Ew P s.bs s.tmps fn.results.toList ks True with
       |some (vs,q)=>q/\AO B R s.bs s.gs s.rs s.os (Hl vs)
       |none=>False
     | []=>match Ew P s.bs s.tmps fn.results.toList ks True with
       |some (vs,q)=>q/\AO B R s.bs s.gs s.rs s.os (Hl vs)
       |none=>False
     |_=>False
   | .ctl,some fn,.late R=>match s.todo with
     | .code .ret::_=>match Ew P s.bs s.tmps fn.results.toList ks True with
       |some (vs,q)=>q/\AO B R s.bs s.gs s.rs s.os (Hl vs)
       |none=>False
     | []=>match Ew P s.bs s.tmps fn.results.toList ks True with
       |some (vs,q)=>q/\AO B R s.bs s.gs s.rs s.os (Hl vs)
       |none=>False
     |_=>False
   | .ctl,some _,.door _ D=>match s.todo with
     | .code .ret::_=>OY B D s.bs s.gs s.rs s.os s.tmps
     | []=>OY B D s.bs s.gs s.rs s.os s.tmps
     |_=>False
   |_,_,_=>False
 | .endr j,_,s=>
   match s.md,m,s.os[j]? with
   | .ctl,.round l R,some (l',r)=>match s.todo with
     | []=>l'=l/\II B R s.bs s.gs s.rs (s.os.set j (l',{r with state:=.ready,pending:=none})) (.bool true)
     | .code .ret::_=>l'=l/\II B R s.bs s.gs s.rs (s.os.set j (l',{r with state:=.done,pending:=some .ret})) (.bool false)
     |_=>False
   |_,_,_=>False
 | .rest,_,s=>
   match s.md,s.todo,m.ro with
   | .ctl,.code (.region _ ops false)::k,none=>match ops.toList with
     | [o0,o1]=>match Region.wanted o0 (yielded ops s.tmps),Bb o0,DJ P (execOp s.ev o0),o1.op with
       |true,false,some (.value v),.defer c=>match Region.wanted o1 (yielded ops (DM s.tmps o0.dst v)),DJ P (resolve (Act.eval ⟨DM s.tmps o0.dst v,[]⟩) c o1.type)with
        |true,some d=> ∀W ds,Sx B W s.bs s.gs s.rs s.os->Mk B W ds->AtG f none (m.fin P f) k ⟨DM (DM s.tmps o0.dst v) o1.dst undef,d::mk m ds⟩ W
        |_,_=>False
       |_,_,_,_=>False
     |_=>False
   |_,_,_=>False
end
end
end Go.Proofs.YtikajapjkdloaaaGreatDoor
