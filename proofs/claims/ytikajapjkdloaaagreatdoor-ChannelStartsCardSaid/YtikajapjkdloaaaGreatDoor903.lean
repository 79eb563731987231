/- The state of a call under way, backwards: the block that was laid last, or set last, stands in the goal. -/
import Derived.Deep.WholeRow
import Derived.ChangeKeysEq
import Derived.Test.YtikajapjkdloaaaGreatDoor902
import Derived.Laws.Externs
import Derived.Shelf.Spec.BitsCarry
namespace Go.Proofs.YtikajapjkdloaaaGreatDoor
section
open Go.RowKit
theorem St.layAt{w0 W:World}{bs:AD}{gs:BN}{n:Nat}{vs:List Value}{t:TypeId}(hn:n=W.heap.size)(h:St w0 W bs gs):St w0 (W.alloc (.cells vs.toArray t)) ((n,vs)::bs) gs:=by
 subst hn;exact h.lay vs t
theorem St.swap{w0 W:World}{x y:Nat×List Value}{bs:AD}{gs:BN}(h:St w0 W (y::x::bs) gs):St w0 W (x::y::bs) gs:=
 ⟨h.1,λz hz=>h.2.1 z (by simp only[List.mem_cons]at hz⊢;rcases hz with k|k|k;exact Or.inr (Or.inl k);exact Or.inl k;exact Or.inr (Or.inr k)),by
  have:=h.2.2.1
  simp only[List.map_cons,List.nodup_cons,List.mem_cons,not_or]at this⊢
  exact⟨⟨λe=>this.1.1 e.symm,this.2.1⟩,this.1.2,this.2.2⟩,h.2.2.2⟩
end
section
open Go.RowKit
def F8:TypeDesc->Bool
 | .struct _| .array _ _=>true
 |_=>false
section
variable {P:Program}
theorem FS{w:World}{g:Nat}{t ty:TypeId}{cs:Array Value}{fr:Nat×Nat}(hg:w.heap[g]? =some (.cells cs t fr))
 (hd:(P.underlying ty).map F8=some true)(hi:(P.info? ty).map (·.size)=some cs.size):(loadVar ty ⟨g,0,none⟩).run P w=.ok (.agg cs) w:=by
 cases hu:P.underlying ty with
 |none=>rw[hu]at hd;cases hd
 |some d=>
  rw[hu]at hd
  have h1:F8 d=true:=Option.some.inj hd
  cases d with
  |struct f=>exact run_loadVar_row w g t ty cs fr _ hg hu rfl hi
  |array n e=>exact run_loadVar_row w g t ty cs fr _ hg hu rfl hi
  |_=>cases h1
theorem IR{fn:Func}{tmps:Array Value}{w:World}{a t g:Nat}{v:Value}(hres:fn.results=#[.cell a t])
 (htmp:tmps[a]? =some (.pointer (some ⟨g,0,none⟩)))(hload:(loadVar t ⟨g,0,none⟩).run P w=.ok v w):(results fn tmps).run P w=.ok v w:=by
 unfold results
 simp[hres,htmp,hload,asAddr]
theorem St.at{w0 W:World}{bs:AD}{gs:BN}(h:St w0 W bs gs): ∀(i:Nat){b:Nat}{vs:List Value},bs[i]? =some (b,vs)->W.rangeAt b 0 vs:=by
 intro i b vs hi j v hv
 have hmem:(b,vs)∈bs:=List.mem_of_getElem? hi
 rw[Nat.zero_add]
 exact(h.2.1 _ hmem).2.2.2 j v hv
theorem A9{ops:Array Oper}{rest:List Oper}{op:Oper}{a:Act}{w:World}{Q:Exit->Act->World->Prop}(ty:TypeId){x:Operand}(ho:op.op=.load ty x)(hgd:op.guard=none)
 (b:Nat)(hx:a.eval x=.pointer (some ⟨b,0,none⟩)){cs:List Value}(hc:w.rangeAt b 0 cs)(hd:(P.underlying ty).map F8=some true)(hi:(P.info? ty).map (·.size)=some cs.length)
 (h:wpList P ops Q rest (a.put op.dst (.agg cs.toArray)) w):wpList P ops Q (op::rest) a w:=by
 cases hu:P.underlying ty with
 |none=>rw[hu]at hd;cases hd
 |some d=>
  rw[hu]at hd
  have h1:F8 d=true:=Option.some.inj hd
  cases d with
  |struct f=>exact wpList_load_mid hgd ty x ho b 0 hx cs _ hc hu rfl hi h
  |array n e=>exact wpList_load_mid hgd ty x ho b 0 hx cs _ hc hu rfl hi h
  |_=>cases h1
end
end
section
open Go.RowKit
theorem St.cell{w0 W:World}{bs:AD}{gs:BN}(h:St w0 W bs gs)(k i:Nat){b:Nat}{vs:List Value}{v:Value}(hk:bs[k]? =some (b,vs))(hv:vs[i]? =some v):W.cell? ⟨b,i,none⟩=some v:=by
 have:=h.at k hk i v hv
 rwa[Nat.zero_add]at this
section
variable {P:Program}
theorem IN{w0:World}{b:Nat}: ∀(cs pre old:List Value){W:World}{bs:AD}(k:Nat),St w0 W bs []->bs[k]? =some (b,pre++old)->old.length=cs.length->
 St w0 (W.setCells b pre.length cs) (bs.set k (b,pre++cs)) []
 | [],pre,old,W,bs,k,h,hk,hl=>by
   obtain rfl:old=[]:=List.eq_nil_of_length_eq_zero hl
   have e:bs.set k (b,pre++[])=bs:=by
    obtain⟨hkl,hv⟩:=List.getElem?_eq_some_iff.1 hk
    rw[<-hv];exact List.set_getElem_self hkl
   rw[e];exact h
 |c::cs,pre,[],W,bs,k,h,hk,hl=>by cases hl
 |c::cs,pre,o::old,W,bs,k,h,hk,hl=>by
  have hkl:k<bs.length:=(List.getElem?_eq_some_iff.1 hk).1
  obtain⟨v0,vs,e0⟩: ∃v0 vs,pre++o::old=v0::vs:=by cases pre with|nil=>exact⟨_,_,rfl⟩|cons x r=>exact⟨_,_,rfl⟩
  have h1:=St.set h k pre.length (by rw[hk,e0]) (by rw[<-e0];simp) (Or.inl rfl) c
  rw[<-e0,show(pre++o::old).set pre.length c=(pre++[c])++old from by simp]at h1
  have h2:=IN cs (pre++[c]) old k h1 (by rw[List.getElem?_set,if_pos rfl,if_pos hkl]) (by simpa using hl)
  rw[List.set_set]at h2
  simp only[List.length_append,List.length_cons,List.length_nil,List.append_assoc,List.cons_append,List.nil_append]at h2
  exact h2
theorem DQ{ops:Array Oper}{rest:List Oper}{op:Oper}{a:Act}{w0 w:World}{Q:Exit->Act->World->Prop}(ty:TypeId){x y:Operand}(ho:op.op=.store ty x y)(hgd:op.guard=none)(hdst:op.dst=none)
 (b:Nat)(hx:a.eval x=.pointer (some ⟨b,0,none⟩))(cells:Array Value)(hy:a.eval y=.agg cells){bs:AD}(S:St w0 w bs [])(k:Nat){old:List Value}(hk:bs[k]? =some (b,old))(hl:old.length=cells.size)
 (hi:(P.info? ty).map (·.size)=some cells.size)(h1:cells.all (·.oneCell')=true)
 (h: ∀w',St w0 w' (bs.set k (b,cells.toList)) []->wpList P ops Q rest a w'):wpList P ops Q (op::rest) a w:=by
 obtain⟨k1,k2,k3,k4⟩:=S.2.1 _ (List.mem_of_getElem? hk)
 have ht:w.there b 0 cells.size:= λj hj=>by
  rw[Nat.zero_add]
  have hj':j<old.length:=by omega
  exact⟨by rw[k4 j _ (List.getElem?_eq_getElem hj')];rfl,k3 j⟩
 refine wpList_store_mid hgd ty x y ho b 0 cells hx hy ht hi h1 ?_
 rw[hdst]
 exact h _ (IN cells.toList [] old k S hk (by simpa using hl))
theorem C8{w:World}{b o:Nat}{ty:TypeId}{cs:List Value}(hc:w.rangeAt b o cs)(hd:(P.underlying ty).map F8=some true)(hi:(P.info? ty).map (·.size)=some cs.length):
 (loadVar ty ⟨b,o,none⟩).run P w=.ok (.agg cs.toArray) w:=by
 cases hu:P.underlying ty with
 |none=>rw[hu]at hd;cases hd
 |some d=>
  rw[hu]at hd
  have h1:F8 d=true:=Option.some.inj hd
  cases d with
  |struct f=>exact run_loadVar_mid w b o ty cs _ hc hu rfl hi
  |array n e=>exact run_loadVar_mid w b o ty cs _ hc hu rfl hi
  |_=>cases h1
theorem EP{fn:Func}{tmps:Array Value}{w:World}{a t b g:Nat}{v u:Value}(hres:fn.results=#[.cell a t,.tmp b])
 (htmp:tmps[a]? =some (.pointer (some ⟨g,0,none⟩)))(hu:tmps[b]? =some u)(hload:(loadVar t ⟨g,0,none⟩).run P w=.ok v w):(results fn tmps).run P w=.ok (.tuple #[v,u]) w:=by
 unfold results
 simp[hres,htmp,hu,hload,asAddr]
end
end
section
open Go.RowKit
theorem RY{P:Program}{w:World}{e:TypeId}(hp:P.plainKey e=true)(hu:P.underlying e=some (.int .i64))(d:Nat){xs ys:Array Value}{ks:List Nat}{us vs:List Int}:
 ks.map (λi=>xs[i]?)=us.map (λa=>some (Value.int .i64 a))->ks.map (λi=>ys[i]?)=vs.map (λa=>some (Value.int .i64 a))->
 (Op.eqItems (d+1) e 1 xs ys ks).run P w=.ok (us==vs) w:=by
 intro ha hb
 induction ks generalizing us vs with
 |nil=>
  obtain rfl:us=[]:=by cases us<;>simp_all
  obtain rfl:vs=[]:=by cases vs<;>simp_all
  simp[Op.eqItems]
 |cons i ks ih=>
  match us,vs,ha,hb with
  |a::us,b::vs,ha,hb=>
   simp only[List.map_cons,List.cons.injEq]at ha hb
   simp only[Op.eqItems,Sem.run_bind,Nat.mul_one]
   rw[run_part_plain w hp ha.1]
   simp only[Result.andThen_ok]
   rw[run_part_plain w hp hb.1]
   simp only[Result.andThen_ok]
   rw[run_equalIn_int w d e .i64 .i64 a b hu]
   simp only[Result.andThen_ok]
   by_cases h:a=b
   ·subst h
    simp only[beq_self_eq_true,Bool.not_true,Bool.false_eq_true,if_false]
    rw[ih ha.2 hb.2]
    simp
   have:(a==b)=false:=by simpa using h
   simp[this]
theorem IQ{P:Program}(w:World){t e:TypeId}{n:Nat}(hu:P.underlying t=some (.array n e))(hi':(P.info? e).isSome=true)(hp:P.plainKey e=true)(he:P.underlying e=some (.int .i64))(hc:P.cellsOf e=1)(us vs:List Int)(ha:us.length=n)(hb:vs.length=n):
 (Op.equalIn 10000 t (.agg (us.map (Value.int .i64)).toArray) (.agg (vs.map (Value.int .i64)).toArray)).run P w=.ok (us==vs) w:=by
 obtain⟨i,hi⟩:=Option.isSome_iff_exists.1 hi'
 show(Op.equalIn (9999+1) t _ _).run P w=_
 rw[run_equalIn_array w 9999 _ _ hu hi,hc]
 exact RY hp he 9998 (by rw[<-ha];apply List.ext_getElem?;intro k;simp;by_cases hk:k<us.length<;>simp[hk]) (by rw[<-hb];apply List.ext_getElem?;intro k;simp;by_cases hk:k<vs.length<;>simp[hk])
theorem Km(a0 a1 a2 b0 b1 b2:Int)(w:World):(Op.equalIn 10000 23 (.agg #[.int .i64 a0,.int .i64 a1,.int .i64 a2]) (.agg #[.int .i64 b0,.int .i64 b1,.int .i64 b2])).run Tryz.prog w=.ok ([a0,a1,a2]== [b0,b1,b2]) w:=
 IQ w Tryz.underlying23 el el Tryz.underlying2 el [a0,a1,a2] [b0,b1,b2] rfl rfl
theorem Ig(a0 a1 a2:Value)(w:World):(Instr.index 23 (.agg #[a0,a1,a2]) (.int .i64 0)).run Tryz.prog w=.ok a0 w:=by kernel_rfl
theorem Ih(a0 a1 a2:Value)(w:World):(Instr.index 23 (.agg #[a0,a1,a2]) (.int .i64 1)).run Tryz.prog w=.ok a1 w:=by kernel_rfl
theorem Ip(a0 a1 a2:Value)(w:World):(Instr.index 23 (.agg #[a0,a1,a2]) (.int .i64 2)).run Tryz.prog w=.ok a2 w:=by kernel_rfl
theorem NF(a0 a1 a2 a3 a4 a5 b0 b1 b2 b3 b4 b5:Int)(w:World):(Op.equalIn 10000 45 (.agg #[.int .i64 a0,.int .i64 a1,.int .i64 a2,.int .i64 a3,.int .i64 a4,.int .i64 a5]) (.agg #[.int .i64 b0,.int .i64 b1,.int .i64 b2,.int .i64 b3,.int .i64 b4,.int .i64 b5])).run Tryz.prog w=.ok ([a0,a1,a2,a3,a4,a5]== [b0,b1,b2,b3,b4,b5]) w:=
 IQ w Tryz.underlying45 el el Tryz.underlying2 el [a0,a1,a2,a3,a4,a5] [b0,b1,b2,b3,b4,b5] rfl rfl
theorem Sa(a0 a1 a2 a3 a4 a5:Value)(w:World):(Instr.index 45 (.agg #[a0,a1,a2,a3,a4,a5]) (.int .i64 0)).run Tryz.prog w=.ok a0 w:=by kernel_rfl
theorem TZ(a0 a1 a2 a3 a4 a5:Value)(w:World):(Instr.index 45 (.agg #[a0,a1,a2,a3,a4,a5]) (.int .i64 1)).run Tryz.prog w=.ok a1 w:=by kernel_rfl
theorem TE(a0 a1 a2 a3 a4 a5:Value)(w:World):(Instr.index 45 (.agg #[a0,a1,a2,a3,a4,a5]) (.int .i64 2)).run Tryz.prog w=.ok a2 w:=by kernel_rfl
theorem Sm(a0 a1 a2 a3 a4 a5:Value)(w:World):(Instr.index 45 (.agg #[a0,a1,a2,a3,a4,a5]) (.int .i64 3)).run Tryz.prog w=.ok a3 w:=by kernel_rfl
theorem Tc(a0 a1 a2 a3 a4 a5:Value)(w:World):(Instr.index 45 (.agg #[a0,a1,a2,a3,a4,a5]) (.int .i64 4)).run Tryz.prog w=.ok a4 w:=by kernel_rfl
theorem TY(a0 a1 a2 a3 a4 a5:Value)(w:World):(Instr.index 45 (.agg #[a0,a1,a2,a3,a4,a5]) (.int .i64 5)).run Tryz.prog w=.ok a5 w:=by kernel_rfl
end
section
open Go.RowKit
theorem Ex.nil{w:World}:Ex w []:= λx hx=>by cases hx
theorem Ex.cons{w:World}{b:Nat}{cs:List Value}{es:AD}(h:b<w.heap.size/\ ∀i v,cs[i]? =some v->w.cell? ⟨b,i,none⟩=some v)(k:Ex w es):Ex w ((b,cs)::es):=by
 intro x hx
 rcases List.mem_cons.1 hx with rfl|hx
 ·exact h
 exact k x hx
section
variable {P:Program} {w0:World} {bs:AD} {gs:BN} {g:FuncId} {args:Array Value} {v:Value} {z:Int}
theorem CallV.of(h: ∀W,St w0 W bs gs->Calls P g args W λe w'=>e=.returned v/\W=w'):CallV P w0 bs gs g args v:=
 λW hS=>(h W hS).mono λ_ _⟨he,hw⟩=>⟨he,hw▸Below.refl _ _⟩
theorem CallV.be(h: ∀W,St w0 W bs gs->Calls P g args W λe w'=>e=.returned v/\Below W.heap.size W w'):CallV P w0 bs gs g args v:=h
theorem MU{w:World}{b:Nat}: ∀(cs:List Value)(k:Nat),Az w b k cs-> ∀i v,cs[i]? =some v->w.cell? ⟨b,k+i,none⟩=some v
 | [],_,_,i,v,h=>by simp at h
 |c::cs,k,hc,0,v,h=>by
  obtain rfl:c=v:=by simpa using h
  exact hc.1
 |c::cs,k,hc,i+1,v,h=>by
  have:=MU cs (k+1) hc.2 i v (by simpa using h)
  rwa[show k+1+i=k+(i+1)from by omega]at this
theorem Vi{w:World}{b:Nat}{c:Value}{cs:List Value}(h:Az w b 0 (c::cs)):b<w.heap.size/\ ∀i v,(c::cs)[i]? =some v->w.cell? ⟨b,i,none⟩=some v:=
 ⟨World.block_lt_of_cell? w ⟨b,0,none⟩ h.1,λi v hv=>by have:=MU _ 0 h i v hv;rwa[Nat.zero_add]at this⟩
theorem Q3(a b:Int):(if b>a then b else a)=max a b:=by rw[Int.max_def];split<;>split<;>omega
theorem SV(a b:Int):(if b<a then b else a)=min a b:=by rw[Int.min_def];split<;>split<;>omega
def v3(a b c:Int):Nat->Int
 |0=>a
 |1=>b
 |_=>c
def v6(a b c d e f:Int):Nat->Int
 |0=>a
 |1=>b
 |2=>c
 |3=>d
 |4=>e
 |_=>f
theorem Hj{p:Int->Prop}{a b c:Int}(ha:p a)(hb:p b)(hc:p c): ∀i,p (v3 a b c i)
 |0=>ha
 |1=>hb
 |_+2=>hc
theorem OA{p:Int->Prop}{a b c d e f:Int}(ha:p a)(hb:p b)(hc:p c)(hd:p d)(he:p e)(hf:p f): ∀i,p (v6 a b c d e f i)
 |0=>ha
 |1=>hb
 |2=>hc
 |3=>hd
 |4=>he
 |_+5=>hf
theorem RN(x:Int)(n:Nat):Int.fdiv x (2^n)=x/2^n:=Int.fdiv_eq_ediv_of_nonneg _ (Int.le_of_lt (Int.pow_pos eo))
theorem Bd{w W:World}{b o:Nat}{v:Value}(hb:Below w.heap.size w W)(h:w.cell? ⟨b,o,none⟩=some v):W.cell? ⟨b,o,none⟩=some v:=
 ((Bz hb).1 _ _ (World.block_lt_of_cell? w _ h)).trans h
theorem BE{n:Int}(h: -9223372036854775808<=n/\n<=9223372036854775807):IntKind.i64.wrap n=n:=IntWalk.i64_in _ h
end
end
section
open Go.RowKit
theorem UD(x y c:Int)(hx:0<=x)(hy:0<=y)(hc0:0<=c)(hc:c<=1)(w:World):(callFunc 208 #[.int .u64 x,.int .u64 y,.int .u64 c]).run Tryz.prog w=
 .ok (.value (.tuple #[.int .u64 ((x+y+c)%18446744073709551616),.int .u64 ((x+y+c)/18446744073709551616)])) w:=by
 obtain⟨x,rfl⟩:=Int.eq_ofNat_of_zero_le hx
 obtain⟨y,rfl⟩:=Int.eq_ofNat_of_zero_le hy
 obtain⟨c,rfl⟩:=Int.eq_ofNat_of_zero_le hc0
 rw[run_callFunc_extern Tryz.func208 el el el (e:=add64Entry) el,run_add64 x y c en en en en]
 rfl
theorem UI(x y b:Int)(hx:0<=x)(hy:0<=y)(hy':y<18446744073709551616)(hb0:0<=b)(hb:b<=1)(w:World):(callFunc 212 #[.int .u64 x,.int .u64 y,.int .u64 b]).run Tryz.prog w=
 .ok (.value (.tuple #[.int .u64 ((x-y-b)%18446744073709551616),.int .u64 (Sg x (y+b))])) w:=by
 obtain⟨x,rfl⟩:=Int.eq_ofNat_of_zero_le hx
 obtain⟨y,rfl⟩:=Int.eq_ofNat_of_zero_le hy
 obtain⟨b,rfl⟩:=Int.eq_ofNat_of_zero_le hb0
 have e1:(((x+18446744073709551616-y-b)%18446744073709551616:Nat):Int)=((x:Int)-y-b)%18446744073709551616:=by omega
 have e2:((if x<y+b then 1 else 0:Nat):Int)=Sg (x:Int) ((y:Int)+b):=by unfold Sg;split<;>split<;>omega
 rw[<-e1,<-e2]
 rw[run_callFunc_extern Tryz.func212 el el el (e:=sub64Entry) el,run_sub64 x y b en]
 simp only[Result.andThen]
theorem Tr(x y:Int)(hx:0<=x)(hy:0<=y)(w:World):(callFunc 208 #[.int .u64 x,.int .u64 y,.int .u64 0]).run Tryz.prog w=
 .ok (.value (.tuple #[.int .u64 ((x+y)%18446744073709551616),.int .u64 ((x+y)/18446744073709551616)])) w:=by
 simpa using UD x y 0 hx hy (Int.le_refl 0) eo w
theorem TU(x y:Int)(hx:0<=x)(hy:0<=y)(hy':y<18446744073709551616)(w:World):(callFunc 212 #[.int .u64 x,.int .u64 y,.int .u64 0]).run Tryz.prog w=
 .ok (.value (.tuple #[.int .u64 ((x-y)%18446744073709551616),.int .u64 (Sg x y)])) w:=by
 simpa using UI x y 0 hx hy hy' (Int.le_refl 0) eo w
set_option maxHeartbeats 400000 in
theorem Cg(x:Int)(hx:Ai x)(w:World):
 Calls Tryz.prog 109 #[.int .i64 x] w λe w'=>e=.returned (.agg #[.int .i64 (AW x),.int .u64 (AY x)])/\Below w.heap.size w w':=by
 have e1:=Nd hx
 have e2:=VA x
 go_enter Tryz.func109,Tryz.ntmps109
 go_wp2
 refine bodyPost_ret (v:=.agg #[.int .i64 (AW x),.int .u64 (AY x)]) (by simp[results,Tryz.results109,go_sem];rw[e1]) rfl ⟨rfl,LC⟩
set_option maxHeartbeats 400000 in
theorem Co(x:Int)(hx:Ai x)(w:World):
 Calls Tryz.prog 195 #[.int .i64 x] w λe w'=>e=.returned (.int .u64 x.natAbs)/\w=w':=by
 have e1:x<0->IntKind.u64.wrap (-IntKind.u64.wrap x)=x.natAbs:=by intro h;unfold Ai at hx;simp only[IntKind.wrap_u64];omega
 have e2: ¬x<0->IntKind.u64.wrap x=x.natAbs:=by intro h;unfold Ai at hx;simp only[IntKind.wrap_u64];omega
 have H1:=Lib.hid e1;have H2:=Lib.hid e2;clear e1 e2
 go_enter Tryz.func195,Tryz.ntmps195
 go_wp2
 all_goals go_ret
 ·exact⟨Gv (H1.out en),rfl⟩
 exact⟨Gv (H2.out en),rfl⟩
set_option maxHeartbeats 400000 in
theorem DU(a b:Int)(w:World):
 Calls Tryz.prog 170 #[.agg #[.int .i64 (AW a),.int .u64 (AY a)],.agg #[.int .i64 (AW b),.int .u64 (AY b)]] w λe w'=>e=.returned (.agg #[.int .i64 (AW (Aj (a+b))),.int .u64 (AY (Aj (a+b)))])/\Below w.heap.size w w':=by
 obtain⟨a1,a2⟩:=Df a
 obtain⟨b1,b2⟩:=Df b
 have E1:=Lib.hid (TW a b);have E2:=Lib.hid (Ta a b)
 have k0:0<=(AY a+AY b)/18446744073709551616:=by omega
 have k1:(AY a+AY b)/18446744073709551616<=1:=by omega
 have c1:0<=IntKind.u64.wrap (AW a):=by simp only[IntKind.wrap_u64];omega
 have c2:0<=IntKind.u64.wrap (AW b):=by simp only[IntKind.wrap_u64];omega
 go_enter Tryz.func170,Tryz.ntmps170
 go_wp2_with (first|simp only[Tr _ _ a1 b1]|simp only[UD _ _ _ c1 c2 k0 k1])
 refine bodyPost_ret (v:=.agg #[.int .i64 (AW (Aj (a+b))),.int .u64 (AY (Aj (a+b)))]) (by simp[results,Tryz.results170,go_sem];exact⟨E2.out,E1.out⟩) rfl ⟨rfl,LC⟩
set_option maxHeartbeats 400000 in
theorem H7(a b:Int)(w:World):
 Calls Tryz.prog 196 #[.agg #[.int .i64 (AW a),.int .u64 (AY a)],.agg #[.int .i64 (AW b),.int .u64 (AY b)]] w λe w'=>e=.returned (.agg #[.int .i64 (AW (Aj (a-b))),.int .u64 (AY (Aj (a-b)))])/\Below w.heap.size w w':=by
 obtain⟨a1,a2⟩:=Df a
 obtain⟨b1,b2⟩:=Df b
 have E1:=Lib.hid (Sb a b);have E2:=Lib.hid (S6 a b)
 obtain⟨k0,k1⟩:=Uw (AY a) (AY b)
 have c1:0<=IntKind.u64.wrap (AW a):=by simp only[IntKind.wrap_u64];omega
 have c2:0<=IntKind.u64.wrap (AW b):=by simp only[IntKind.wrap_u64];omega
 have c3:IntKind.u64.wrap (AW b)<18446744073709551616:=by simp only[IntKind.wrap_u64];omega
 go_enter Tryz.func196,Tryz.ntmps196
 go_wp2_with (first|simp only[TU _ _ a1 b1 b2]|simp only[UI _ _ _ c1 c2 c3 k0 k1])
 refine bodyPost_ret (v:=.agg #[.int .i64 (AW (Aj (a-b))),.int .u64 (AY (Aj (a-b)))]) (by simp[results,Tryz.results196,go_sem];exact⟨E2.out,E1.out⟩) rfl ⟨rfl,LC⟩
end
end Go.Proofs.YtikajapjkdloaaaGreatDoor
