/- ChannelStarts is proved: the tick that brings the 16th good count, since the clock seeks, leads to Track, with the altitude of the mean; its condition: the variables none and least of the package wide, places of sym, table of atmos and rows of spread hold what their initialisers lay. -/
import Derived.Test.YtikajapjkdloaaaGreatDoor946
namespace Go.Proofs.YtikajapjkdloaaaGreatDoor
section
open Go.RowKit Go.WideShapes Go.ChangeShapes Go.WideElems
set_option maxRecDepth 100000
section
variable {H:Type} {enc:TypeId×Value->H} {w:World} {base:Nat} {spare:Nat->Bool} {held:Bool} {r:Reach} {b0:Nat} {v:Value} {d:DataW H} {p:List MemPlace}
theorem dk(hv:Value.okWide Tryz.prog w r b0 26 v)(h:DataW.Trod enc Tryz.prog w base spare held 26 v d p): ∃x:Nat->Int,True/\v=.agg #[.int .i64 (x 0),.int .i64 (x 1),.int .i64 (x 2),.int .i64 (x 3),.int .i64 (x 4),.int .i64 (x 5),.int .i64 (x 6),.int .i64 (x 7),.int .i64 (x 8),.int .i64 (x 9),.int .i64 (x 10),.int .i64 (x 11),.int .i64 (x 12),.int .i64 (x 13),.int .i64 (x 14),.int .i64 (x 15)]:=by
 obtain⟨l,hl,hx,rfl⟩:=dV Tryz.underlying26 Tryz.underlying2 el el hv h
 match l,hl with
 | [a0,a1,a2,a3,a4,a5,ZA6,a7,a8,a9,a10,a11,a12,a13,a14,a15],_=>exact⟨λi=>[a0,a1,a2,a3,a4,a5,ZA6,a7,a8,a9,a10,a11,a12,a13,a14,a15].getD i 0,trivial,rfl⟩
theorem eF(hv:Value.okWide Tryz.prog w r b0 27 v)(h:DataW.Trod enc Tryz.prog w base spare held 27 v d p):
 ∃(A:Option Addr)(n cap:Nat),True/\(n=0∨ ∃(u:Nat->Int)(b o:Nat)(cs:List Value),A=some ⟨b,o,none⟩/\(∀i,0<=u i/\u i<=255)/\da u cs o n/\b<w.heap.size/\ ∀i v,cs[i]? =some v->w.cell? ⟨b,i,none⟩=some v)/\True/\v=.slice A n cap:=by
 obtain⟨A,n,cap,rfl⟩:=okWide_slice Tryz.underlying27 hv
 obtain⟨fuel,hf⟩:=h
 refine⟨A,n,cap,trivial,?_,trivial,rfl⟩
 rcases Go.Deep.open_slice1 Tryz.underlying27 el hf with⟨hcs,_⟩|⟨a,len,cap',m,k,V,D,Pl,hcs,_,hle,hcap,hm,_,hel⟩
 all_goals simp only[Value.cells,List.cons.injEq,Value.slice.injEq,and_true]at hcs
 ·exact Or.inl hcs.2.1
 obtain⟨rfl,rfl,rfl⟩:=hcs
 rcases Nat.eq_zero_or_pos n with h0|h0
 ·exact Or.inl h0
 right
 have hnm:n<=m:=by rw[hm];split<;>omega
 obtain⟨b,o,spot⟩:=a
 have each: ∀i,i<n-> ∃x:Int,(0<=x/\x<=255)/\w.cell? (Addr.add ⟨b,o,spot⟩ i)=some (.int .u8 x):=by
  intro i hi
  obtain⟨hcell,htr⟩:=hel i en
  obtain⟨x,ex,_,wx⟩:=DataW.trod_int Tryz.underlying5 htr
  obtain e:V i=.int .u8 x:=by simpa using ex
  exact⟨x,bounds_u8 wx,by rw[hcell,e]⟩
 obtain⟨x0,_,hcell⟩:=each 0 h0
 simp only[Addr.add_zero']at hcell
 have hspot:spot=none:=World.cell?_spot hcell
 subst hspot
 simp only[Addr.add_lit]at each
 obtain⟨cur,e,z,hb⟩: ∃cur e z,w.heap[b]? =some (.cells cur e z):=by
  unfold World.cell? at hcell
  dsimp only at hcell
  split at hcell
  ·rename_i c e z hq;exact⟨_,_,_,hq⟩
  cases hcell
 refine⟨λi=>if i<n then Us ((w.cell? ⟨b,o+i,none⟩).getD undef)else 0,b,o,cur.toList,rfl,λi=> ?_,λi hi=> ?_,World.block_lt_of_cell? w ⟨b,o,none⟩ hcell,λi v hv=> ?_⟩
 ·dsimp only
  split
  ·rename_i hi
   obtain⟨x,hx,hc⟩:=each i hi
   rw[hc];exact hx
  decide
 ·obtain⟨x,hx,hc⟩:=each i hi
  have key:cur.toList[o+i]? =some (.int .u8 x):=by rw[<-hc,Ce hb];simp
  rw[key];dsimp only;rw[if_pos hi,hc];rfl
 rw[Ce hb];simpa using hv
end
theorem dK(w:World)(c x:Nat->Int)(A:Option Addr)(n cp:Nat)(hc: ∀i,Ai (c i))(h:n=0∨ ∃(u:Nat->Int)(b o:Nat)(cs:List Value),A=some ⟨b,o,none⟩/\(∀i,0<=u i/\u i<=255)/\da u cs o n/\b<w.heap.size/\ ∀i v,cs[i]? =some v->w.cell? ⟨b,i,none⟩=some v)(hA:GA w):
 Calls Tryz.prog 3 #[cA c,.agg #[.int .i64 (x 0),.int .i64 (x 1),.int .i64 (x 2),.int .i64 (x 3),.int .i64 (x 4),.int .i64 (x 5),.int .i64 (x 6),.int .i64 (x 7),.int .i64 (x 8),.int .i64 (x 9),.int .i64 (x 10),.int .i64 (x 11),.int .i64 (x 12),.int .i64 (x 13),.int .i64 (x 14),.int .i64 (x 15)],.slice A n cp] w λe w'=>e=.returned (.bool true)/\Below w.heap.size w w':=by
 by_cases hk:Ct c=0
 ·rcases Nat.lt_or_ge 16 n with hn|hn
  ·exact dU c x A n cp hc hk hn w hA
  rcases h with rfl|⟨u,b,o,cs,h1,hu,hT,hb,hx⟩
  ·exact dG c x (λ_=>0) _ _ A _ 0 0 cp [] rfl rfl hc hk hn (λ_=>by decide) (λi hi=>absurd hi (Nat.not_lt_zero i)) (λq=>absurd q eo) w hA hA.gl.lt (λi v q=>by simp at q)
  exact dG c x u _ _ A b o n cp cs rfl rfl hc hk hn hu hT (λ_=>h1) w hA hb hx
 exact dR c x A n cp hc hk w hA
namespace channelStarts
theorem reads(os:Os){H:Type}(enc:TypeId×Value->H): ∃places,DataW.whole enc Tryz.prog ((World.doorLaid Tryz.prog 400 os).forCall (λ_ _=>0) ⟨#[],#[.agg #[.int .i64 0,.int .i64 0,.int .i64 0,.int .i64 0,.int .i64 0,.int .i64 0,.int .i64 0,.int .i64 0,.int .i64 0,.int .i64 0,.int .i64 0,.int .i64 0,.int .i64 0,.int .i64 0,.int .i64 0,.int .i64 0,.int .i64 0,.int .i64 0,.int .i64 0,.int .i64 0,.int .i64 0,.int .i64 0,.int .i64 0,.int .i64 0,.int .i64 0,.int .i64 0,.int .i64 0,.int .i64 0,.int .i64 0,.int .i64 0,.int .i64 0],.agg #[.int .i64 0,.int .i64 0,.int .i64 0,.int .i64 0,.int .i64 0,.int .i64 0,.int .i64 0,.int .i64 0,.int .i64 0,.int .i64 0,.int .i64 0,.int .i64 0,.int .i64 0,.int .i64 0,.int .i64 0,.int .i64 0],.slice none 0 0],[]⟩).memory Tryz.f3.params.toList Rows.channelStartsSpec.vars false #[.agg #[.int .i64 0,.int .i64 0,.int .i64 0,.int .i64 0,.int .i64 0,.int .i64 0,.int .i64 0,.int .i64 0,.int .i64 0,.int .i64 0,.int .i64 0,.int .i64 0,.int .i64 0,.int .i64 0,.int .i64 0,.int .i64 0,.int .i64 0,.int .i64 0,.int .i64 0,.int .i64 0,.int .i64 0,.int .i64 0,.int .i64 0,.int .i64 0,.int .i64 0,.int .i64 0,.int .i64 0,.int .i64 0,.int .i64 0,.int .i64 0,.int .i64 0],.agg #[.int .i64 0,.int .i64 0,.int .i64 0,.int .i64 0,.int .i64 0,.int .i64 0,.int .i64 0,.int .i64 0,.int .i64 0,.int .i64 0,.int .i64 0,.int .i64 0,.int .i64 0,.int .i64 0,.int .i64 0,.int .i64 0],.slice none 0 0].toList 8=some ([.agg [.agg [.lit (.int .i64 0),.lit (.int .i64 0),.lit (.int .i64 0)],.agg [.lit (.int .i64 0),.lit (.int .i64 0),.lit (.int .i64 0)],.lit (.int .i64 0),.lit (.int .i64 0),.agg [.lit (.int .i64 0),.lit (.int .i64 0),.lit (.int .i64 0)],.agg [.lit (.int .i64 0),.lit (.int .i64 0),.lit (.int .i64 0)],.agg [.lit (.int .i64 0),.lit (.int .i64 0),.lit (.int .i64 0)],.agg [.lit (.int .i64 0),.lit (.int .i64 0),.lit (.int .i64 0)],.lit (.int .i64 0),.agg [.lit (.int .i64 0),.lit (.int .i64 0),.lit (.int .i64 0)],.lit (.int .i64 0),.lit (.int .i64 0),.lit (.int .i64 0),.lit (.int .i64 0),.lit (.int .i64 0),.lit (.int .i64 0),.lit (.int .i64 0)],.agg [.lit (.int .i64 0),.lit (.int .i64 0),.lit (.int .i64 0),.lit (.int .i64 0),.lit (.int .i64 0),.lit (.int .i64 0),.lit (.int .i64 0),.lit (.int .i64 0),.lit (.int .i64 0),.lit (.int .i64 0),.lit (.int .i64 0),.lit (.int .i64 0),.lit (.int .i64 0),.lit (.int .i64 0),.lit (.int .i64 0),.lit (.int .i64 0)],.nil],[],places):=
 ⟨[],by kernel_rfl⟩
theorem Fs(os:Os):laidMet Tryz.prog Rows.channelStartsRow.laid ((World.doorLaid Tryz.prog 400 os).forCall (λ_ _=>0) ⟨#[],#[.agg #[.int .i64 0,.int .i64 0,.int .i64 0,.int .i64 0,.int .i64 0,.int .i64 0,.int .i64 0,.int .i64 0,.int .i64 0,.int .i64 0,.int .i64 0,.int .i64 0,.int .i64 0,.int .i64 0,.int .i64 0,.int .i64 0,.int .i64 0,.int .i64 0,.int .i64 0,.int .i64 0,.int .i64 0,.int .i64 0,.int .i64 0,.int .i64 0,.int .i64 0,.int .i64 0,.int .i64 0,.int .i64 0,.int .i64 0,.int .i64 0,.int .i64 0],.agg #[.int .i64 0,.int .i64 0,.int .i64 0,.int .i64 0,.int .i64 0,.int .i64 0,.int .i64 0,.int .i64 0,.int .i64 0,.int .i64 0,.int .i64 0,.int .i64 0,.int .i64 0,.int .i64 0,.int .i64 0,.int .i64 0],.slice none 0 0],[]⟩).memory:=
 laidMet_of_run' 8 el el
set_option maxRecDepth 100000 in
theorem I_(os:Os)(started:os.Started)(H:Type)(enc:TypeId×Value->H)(F:Stop.Interp):
 ReturnsInHanded {} Tryz.checked os 3 .any ((OpenSpec.ofChange Rows.channelStartsSpec).preRow enc Tryz.prog Tryz.f3 Rows.channelStartsRow.domain false Rows.channelStartsRow.laid) (((OpenSpec.ofChange Rows.channelStartsSpec).at F).post enc Tryz.prog Tryz.f3 false true false false):=by
 obtain⟨places,hx⟩:=reads os enc
 refine returnsInHanded_of_row (C:=Tryz.checked) (s:=OpenSpec.ofChange Rows.channelStartsSpec) own started el Tryz.func3
  (witness_row_at (enc:=enc) (C:=Tryz.checked) false (World.doorLaid Tryz.prog 400 os) #[.agg #[.int .i64 0,.int .i64 0,.int .i64 0,.int .i64 0,.int .i64 0,.int .i64 0,.int .i64 0,.int .i64 0,.int .i64 0,.int .i64 0,.int .i64 0,.int .i64 0,.int .i64 0,.int .i64 0,.int .i64 0,.int .i64 0,.int .i64 0,.int .i64 0,.int .i64 0,.int .i64 0,.int .i64 0,.int .i64 0,.int .i64 0,.int .i64 0,.int .i64 0,.int .i64 0,.int .i64 0,.int .i64 0,.int .i64 0,.int .i64 0,.int .i64 0],.agg #[.int .i64 0,.int .i64 0,.int .i64 0,.int .i64 0,.int .i64 0,.int .i64 0,.int .i64 0,.int .i64 0,.int .i64 0,.int .i64 0,.int .i64 0,.int .i64 0,.int .i64 0,.int .i64 0,.int .i64 0,.int .i64 0],.slice none 0 0] rfl el el el
   (OpenSpec.preRow_of_cond 8 hx el (λk hk=>by cases hk) el (Fs os))) ?_
 intro W base args ds gs before hval hW _ _ _ hL _ _
 have hW':=hW
 obtain⟨p,q,hA0,hV,rfl,hfz,hnd⟩:=hW
 have hA:DataW.TrodAll enc Tryz.prog W 0 (λ_=>true) true Tryz.f3.params.toList args.toList ds p:=hA0
 rw[Tryz.params3]at hA hval
 obtain⟨v0,v1,v2,d0,d1,d2,p0,p1,p2,rfl,rfl,rfl,h0,h1,h2⟩:=trodAll_three hA
 obtain⟨c,hc,rfl⟩:=Hx (hval 0 _ v0 rfl rfl) h0
 obtain⟨x,hx,rfl⟩:=dk (hval 1 _ v1 rfl rfl) h1
 obtain⟨uA,un,uc,huA,hun,huc,rfl⟩:=eF (hval 2 _ v2 rfl rfl) h2
 obtain⟨rfl,rfl⟩:=trodVars_none hV
 have hg:=Ly (L:=Rows.channelStartsRow.laid) hL (List.Mem.head _)
 have hl:=Li (L:=Rows.channelStartsRow.laid) hL (List.Mem.tail _ (List.Mem.head _))
 have hgp:=LE (L:=Rows.channelStartsRow.laid) hL (List.Mem.tail _ (List.Mem.tail _ (List.Mem.head _)))
 have hgt:=K_ (L:=Rows.channelStartsRow.laid) hL (List.Mem.tail _ (List.Mem.tail _ (List.Mem.tail _ (List.Mem.head _))))
 have hgr:=LN (L:=Rows.channelStartsRow.laid) hL (List.Mem.tail _ (List.Mem.tail _ (List.Mem.tail _ (List.Mem.tail _ (List.Mem.head _)))))
 refine(dK W c x uA un uc hc hun (RT hg hl hgp hgt hgr)).mono ?_
 rintro e W' ⟨rfl,hbel⟩
 exact⟨_,rfl,Ji hW' rfl rfl rfl rfl el Tryz.underlying4 Fh el hbel⟩
theorem Q6:Rows.ChannelStartsSaid:=
 OpenClaim.holds_of_cond 3 Tryz.f3 rfl rfl rfl rfl rfl rfl rfl ⟨rfl,rfl,rfl,rfl,rfl⟩ rfl rfl rfl rfl rfl el Tryz.func3 el
  (of_decide_eq_true el) (by unfold Func.isWrapper;first|(rw[if_pos (by decide+kernel)];kernel_rfl)|(rw[if_neg (by decide+kernel)];exact⟨rfl,rfl⟩))
  (λos started H enc _ F=>by rw[OpenClaim.pre_eq_preRow];exact I_ os started H enc F)
theorem Mu(f:FuncId)(fn:Func)(hf:Tryz.pinned.checked.prog.funcNamed "aneroid/aneroidlaw20.ChannelStarts" =some f)(hfn:Tryz.pinned.checked.prog.funcs[f]? =some fn):
 Rows.channelStartsCard.stood.looks=Tryz.pinned.checked.prog.looks []/\ ∀(j:Nat) t,fn.params[j]? =some t->Tryz.pinned.checked.prog.wantsStandIn t=false:=by
 obtain rfl:f=3:=Option.some.inj ((show Tryz.prog.funcNamed "aneroid/aneroidlaw20.ChannelStarts" =some 3 by kernel_rfl).symm.trans hf)|>.symm
 obtain rfl:fn=Tryz.f3:=(Option.some.inj (Tryz.func3.symm.trans hfn)).symm
 refine⟨by kernel_rfl,λj t ht=> ?_⟩
 have hall:(Tryz.f3.params.all λt=> !Tryz.prog.wantsStandIn t)=true:=by kernel_rfl
 exact Bool.not_eq_true' _▸(Array.all_eq_true_iff_forall_mem.1 hall) t (Array.mem_of_getElem? ht)
theorem card:Rows.ChannelStartsCardSaid:=
 Claim7.holds_tied_plain_at .later [] _ _ _ _ Q6 (λ_ h=>by cases h) el (λ_ h=>by cases h) channelStarts_row_tie rfl ⟨rfl,rfl⟩ el rfl Mu el
end channelStarts
end
end Go.Proofs.YtikajapjkdloaaaGreatDoor
