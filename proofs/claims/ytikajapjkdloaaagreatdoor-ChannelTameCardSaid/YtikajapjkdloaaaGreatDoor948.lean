/- ChannelTame is proved: the doubt of a valid clock is tame, its state within Bound; its condition: the variables none and least of the package wide, places of sym, table of atmos and rows of spread hold what their initialisers lay. -/
import Derived.Test.YtikajapjkdloaaaGreatDoor947
namespace Go.Proofs.YtikajapjkdloaaaGreatDoor
open Go.RowKit Go.WideShapes Go.ChangeShapes
set_option maxRecDepth 100000
theorem Zh(w:World)(c:Nat->Int)(A:Option Addr)(n cp:Nat)(hc: ∀i,Ai (c i))(h:n=0∨ ∃(T:Nat->Tk)(b o:Nat)(cs:List Value),A=some ⟨b,o,none⟩/\Ep T cs o n/\b<w.heap.size/\ ∀i v,cs[i]? =some v->w.cell? ⟨b,i,none⟩=some v)(hA:GA w):
 Calls Tryz.prog 5 #[cA c,.slice A n cp] w λe w'=>e=.returned (.bool true)/\Below w.heap.size w w':=by
 rcases Nat.lt_or_ge 1000 n with hn|hn
 ·exact aA c A n cp hn w hA
 by_cases hk:Ct c=0
 ·rcases h with rfl|⟨T,b,o,cs,h1,hT,hb,hx⟩
  ·exact ZN c A (λ_=>⟨0,false,0,false⟩) _ 0 0 cp [] hc hk hn (λi hi=>absurd hi (Nat.not_lt_zero i)) (λq=>absurd q (by decide)) w hA hA.gl.lt (λi v q=>by simp at q)
  exact ZN c A T b o n cp cs hc hk hn hT (λ_=>h1) w hA hb hx
 exact aC c A n cp hc hk hn w hA
namespace channelTame
theorem reads(os:Os){H:Type}(enc:TypeId×Value->H): ∃places,DataW.whole enc Tryz.prog ((World.doorLaid Tryz.prog 400 os).forCall (λ_ _=>0) ⟨#[],#[.agg #[.int .i64 0,.int .i64 0,.int .i64 0,.int .i64 0,.int .i64 0,.int .i64 0,.int .i64 0,.int .i64 0,.int .i64 0,.int .i64 0,.int .i64 0,.int .i64 0,.int .i64 0,.int .i64 0,.int .i64 0,.int .i64 0,.int .i64 0,.int .i64 0,.int .i64 0,.int .i64 0,.int .i64 0,.int .i64 0,.int .i64 0,.int .i64 0,.int .i64 0,.int .i64 0,.int .i64 0,.int .i64 0,.int .i64 0,.int .i64 0,.int .i64 0],.slice none 0 0],[]⟩).memory Tryz.f5.params.toList Rows.channelTameSpec.vars false #[.agg #[.int .i64 0,.int .i64 0,.int .i64 0,.int .i64 0,.int .i64 0,.int .i64 0,.int .i64 0,.int .i64 0,.int .i64 0,.int .i64 0,.int .i64 0,.int .i64 0,.int .i64 0,.int .i64 0,.int .i64 0,.int .i64 0,.int .i64 0,.int .i64 0,.int .i64 0,.int .i64 0,.int .i64 0,.int .i64 0,.int .i64 0,.int .i64 0,.int .i64 0,.int .i64 0,.int .i64 0,.int .i64 0,.int .i64 0,.int .i64 0,.int .i64 0],.slice none 0 0].toList 8=some ([.agg [.agg [.lit (.int .i64 0),.lit (.int .i64 0),.lit (.int .i64 0)],.agg [.lit (.int .i64 0),.lit (.int .i64 0),.lit (.int .i64 0)],.lit (.int .i64 0),.lit (.int .i64 0),.agg [.lit (.int .i64 0),.lit (.int .i64 0),.lit (.int .i64 0)],.agg [.lit (.int .i64 0),.lit (.int .i64 0),.lit (.int .i64 0)],.agg [.lit (.int .i64 0),.lit (.int .i64 0),.lit (.int .i64 0)],.agg [.lit (.int .i64 0),.lit (.int .i64 0),.lit (.int .i64 0)],.lit (.int .i64 0),.agg [.lit (.int .i64 0),.lit (.int .i64 0),.lit (.int .i64 0)],.lit (.int .i64 0),.lit (.int .i64 0),.lit (.int .i64 0),.lit (.int .i64 0),.lit (.int .i64 0),.lit (.int .i64 0),.lit (.int .i64 0)],.nil],[],places):=
 ⟨[],by kernel_rfl⟩
theorem Fs(os:Os):laidMet Tryz.prog Rows.channelTameRow.laid ((World.doorLaid Tryz.prog 400 os).forCall (λ_ _=>0) ⟨#[],#[.agg #[.int .i64 0,.int .i64 0,.int .i64 0,.int .i64 0,.int .i64 0,.int .i64 0,.int .i64 0,.int .i64 0,.int .i64 0,.int .i64 0,.int .i64 0,.int .i64 0,.int .i64 0,.int .i64 0,.int .i64 0,.int .i64 0,.int .i64 0,.int .i64 0,.int .i64 0,.int .i64 0,.int .i64 0,.int .i64 0,.int .i64 0,.int .i64 0,.int .i64 0,.int .i64 0,.int .i64 0,.int .i64 0,.int .i64 0,.int .i64 0,.int .i64 0],.slice none 0 0],[]⟩).memory:=
 laidMet_of_run' 8 (by kernel_rfl) (by kernel_rfl)
set_option maxRecDepth 100000 in
theorem I_(os:Os)(started:os.Started)(H:Type)(enc:TypeId×Value->H)(F:Stop.Interp):
 ReturnsInHanded {} Tryz.checked os 5 .any ((OpenSpec.ofChange Rows.channelTameSpec).preRow enc Tryz.prog Tryz.f5 Rows.channelTameRow.domain false Rows.channelTameRow.laid) (((OpenSpec.ofChange Rows.channelTameSpec).at F).post enc Tryz.prog Tryz.f5 false true false false):=by
 obtain⟨places,hx⟩:=reads os enc
 refine returnsInHanded_of_row (C:=Tryz.checked) (s:=OpenSpec.ofChange Rows.channelTameSpec) own started (by kernel_rfl) Tryz.func5
  (witness_row_at (enc:=enc) (C:=Tryz.checked) false (World.doorLaid Tryz.prog 400 os) #[.agg #[.int .i64 0,.int .i64 0,.int .i64 0,.int .i64 0,.int .i64 0,.int .i64 0,.int .i64 0,.int .i64 0,.int .i64 0,.int .i64 0,.int .i64 0,.int .i64 0,.int .i64 0,.int .i64 0,.int .i64 0,.int .i64 0,.int .i64 0,.int .i64 0,.int .i64 0,.int .i64 0,.int .i64 0,.int .i64 0,.int .i64 0,.int .i64 0,.int .i64 0,.int .i64 0,.int .i64 0,.int .i64 0,.int .i64 0,.int .i64 0,.int .i64 0],.slice none 0 0] rfl (by kernel_rfl) (by kernel_rfl) (by kernel_rfl)
   (OpenSpec.preRow_of_cond 8 hx (by kernel_rfl) (λk hk=>by cases hk) (by kernel_rfl) (Fs os))) ?_
 intro W base args ds gs before hval hW _ _ _ hL _ _
 have hW':=hW
 obtain⟨p,q,hA0,hV,rfl,hfz,hnd⟩:=hW
 have hA:DataW.TrodAll enc Tryz.prog W 0 (λ_=>true) true Tryz.f5.params.toList args.toList ds p:=hA0
 rw[Tryz.params5]at hA hval
 obtain⟨v0,v1,d0,d1,p0,p1,rfl,rfl,rfl,h0,h1⟩:=trodAll_two hA
 obtain⟨c,hc,rfl⟩:=Hx (hval 0 _ v0 rfl rfl) h0
 obtain⟨tA,tn,tc,htA,htn,htc,rfl⟩:=FJ (hval 1 _ v1 rfl rfl) h1
 obtain⟨rfl,rfl⟩:=trodVars_none hV
 have hg:=Ly (L:=Rows.channelTameRow.laid) hL (List.Mem.head _)
 have hl:=Li (L:=Rows.channelTameRow.laid) hL (List.Mem.tail _ (List.Mem.head _))
 have hgp:=LE (L:=Rows.channelTameRow.laid) hL (List.Mem.tail _ (List.Mem.tail _ (List.Mem.head _)))
 have hgt:=K_ (L:=Rows.channelTameRow.laid) hL (List.Mem.tail _ (List.Mem.tail _ (List.Mem.tail _ (List.Mem.head _))))
 have hgr:=LN (L:=Rows.channelTameRow.laid) hL (List.Mem.tail _ (List.Mem.tail _ (List.Mem.tail _ (List.Mem.tail _ (List.Mem.head _)))))
 refine(Zh W c tA tn tc hc htn (RT hg hl hgp hgt hgr)).mono ?_
 rintro e W' ⟨rfl,hbel⟩
 exact⟨_,rfl,Ji hW' rfl rfl rfl rfl (by kernel_rfl) Tryz.underlying4 Fh (by kernel_rfl) hbel⟩
theorem Q6:Rows.ChannelTameSaid:=
 OpenClaim.holds_of_cond 5 Tryz.f5 rfl rfl rfl rfl rfl rfl rfl ⟨rfl,rfl,rfl,rfl,rfl⟩ rfl rfl rfl rfl rfl (by kernel_rfl) Tryz.func5 (by kernel_rfl)
  (of_decide_eq_true (by kernel_rfl)) (by unfold Func.isWrapper;first|(rw[if_pos (by decide+kernel)];kernel_rfl)|(rw[if_neg (by decide+kernel)];exact⟨rfl,rfl⟩))
  (λos started H enc _ F=>by rw[OpenClaim.pre_eq_preRow];exact I_ os started H enc F)
theorem Mu(f:FuncId)(fn:Func)(hf:Tryz.pinned.checked.prog.funcNamed "aneroid/aneroidlaw20.ChannelTame" =some f)(hfn:Tryz.pinned.checked.prog.funcs[f]? =some fn):
 Rows.channelTameCard.stood.looks=Tryz.pinned.checked.prog.looks []/\ ∀(j:Nat) t,fn.params[j]? =some t->Tryz.pinned.checked.prog.wantsStandIn t=false:=by
 obtain rfl:f=5:=Option.some.inj ((show Tryz.prog.funcNamed "aneroid/aneroidlaw20.ChannelTame" =some 5 by kernel_rfl).symm.trans hf)|>.symm
 obtain rfl:fn=Tryz.f5:=(Option.some.inj (Tryz.func5.symm.trans hfn)).symm
 refine⟨by kernel_rfl,λj t ht=> ?_⟩
 have hall:(Tryz.f5.params.all λt=> !Tryz.prog.wantsStandIn t)=true:=by kernel_rfl
 exact Bool.not_eq_true' _▸(Array.all_eq_true_iff_forall_mem.1 hall) t (Array.mem_of_getElem? ht)
theorem card:Rows.ChannelTameCardSaid:=
 Claim7.holds_tied_plain_at .later [] _ _ _ _ Q6 (λ_ h=>by cases h) (by kernel_rfl) (λ_ h=>by cases h) channelTame_row_tie rfl ⟨rfl,rfl⟩ (by kernel_rfl) rfl Mu (by kernel_rfl)
end channelTame
end Go.Proofs.YtikajapjkdloaaaGreatDoor
