/- ChannelHeld is proved: with Q in place of Loose a clipped thrust count does what the last one that wasn't did, but for Held; its condition: the variables none and least of the package wide, places of sym, table of atmos and rows of spread hold what their initialisers lay. -/
import Derived.Test.YtikajapjkdloaaaGreatDoor954
namespace Go.Proofs.YtikajapjkdloaaaGreatDoor
open Go.RowKit Go.WideShapes Go.ChangeShapes
set_option maxRecDepth 100000
theorem YB(w:World)(c:Nat->Int)(A:Option Addr)(n cp:Nat)(hc: ∀i,Ai (c i))(h:n=0∨ ∃(T:Nat->Tk)(b o:Nat)(cs:List Value),A=some ⟨b,o,none⟩/\Ep T cs o n/\b<w.heap.size/\ ∀i v,cs[i]? =some v->w.cell? ⟨b,i,none⟩=some v)(hA:GA w):
 Calls Tryz.prog 8 #[cA c,.slice A n cp] w λe w'=>e=.returned (.bool true)/\Below w.heap.size w w':=by
 rcases Nat.lt_or_ge 1000 n with hn|hn
 ·exact YG c A n cp hn w hA
 by_cases hk:Ct (Xy c)=0
 ·rcases h with rfl|⟨T,b,o,cs,rfl,hT,hb,hx⟩
  ·exact YD c A cp (YC hc) hk w hA
  rcases Nat.eq_zero_or_pos n with h0|h0
  ·subst h0;exact YD c _ cp (YC hc) hk w hA
  exact YE c T b o n cp cs (YC hc) hk h0 hn hT (by have q:=He hk;rw[show Xy c 26=c 26 from rfl,show Xy c 25=c 25 from rfl]at q;exact q) (by have q:=K6 hk;rw[show Xy c 27=c 27 from rfl]at q;exact q) w hA hb hx
 exact YF c A n cp (YC hc) hk hn w hA
namespace channelHeld
theorem reads(os:Os){H:Type}(enc:TypeId×Value->H): ∃places,DataW.whole enc Tryz.prog ((World.doorLaid Tryz.prog 400 os).forCall (λ_ _=>0) ⟨#[],#[.agg #[.int .i64 0,.int .i64 0,.int .i64 0,.int .i64 0,.int .i64 0,.int .i64 0,.int .i64 0,.int .i64 0,.int .i64 0,.int .i64 0,.int .i64 0,.int .i64 0,.int .i64 0,.int .i64 0,.int .i64 0,.int .i64 0,.int .i64 0,.int .i64 0,.int .i64 0,.int .i64 0,.int .i64 0,.int .i64 0,.int .i64 0,.int .i64 0,.int .i64 0,.int .i64 0,.int .i64 0,.int .i64 0,.int .i64 0,.int .i64 0,.int .i64 0],.slice none 0 0],[]⟩).memory Tryz.f8.params.toList Rows.channelHeldSpec.vars false #[.agg #[.int .i64 0,.int .i64 0,.int .i64 0,.int .i64 0,.int .i64 0,.int .i64 0,.int .i64 0,.int .i64 0,.int .i64 0,.int .i64 0,.int .i64 0,.int .i64 0,.int .i64 0,.int .i64 0,.int .i64 0,.int .i64 0,.int .i64 0,.int .i64 0,.int .i64 0,.int .i64 0,.int .i64 0,.int .i64 0,.int .i64 0,.int .i64 0,.int .i64 0,.int .i64 0,.int .i64 0,.int .i64 0,.int .i64 0,.int .i64 0,.int .i64 0],.slice none 0 0].toList 8=some ([.agg [.agg [.lit (.int .i64 0),.lit (.int .i64 0),.lit (.int .i64 0)],.agg [.lit (.int .i64 0),.lit (.int .i64 0),.lit (.int .i64 0)],.lit (.int .i64 0),.lit (.int .i64 0),.agg [.lit (.int .i64 0),.lit (.int .i64 0),.lit (.int .i64 0)],.agg [.lit (.int .i64 0),.lit (.int .i64 0),.lit (.int .i64 0)],.agg [.lit (.int .i64 0),.lit (.int .i64 0),.lit (.int .i64 0)],.agg [.lit (.int .i64 0),.lit (.int .i64 0),.lit (.int .i64 0)],.lit (.int .i64 0),.agg [.lit (.int .i64 0),.lit (.int .i64 0),.lit (.int .i64 0)],.lit (.int .i64 0),.lit (.int .i64 0),.lit (.int .i64 0),.lit (.int .i64 0),.lit (.int .i64 0),.lit (.int .i64 0),.lit (.int .i64 0)],.nil],[],places):=
 ⟨[],by kernel_rfl⟩
theorem Fs(os:Os):laidMet Tryz.prog Rows.channelHeldRow.laid ((World.doorLaid Tryz.prog 400 os).forCall (λ_ _=>0) ⟨#[],#[.agg #[.int .i64 0,.int .i64 0,.int .i64 0,.int .i64 0,.int .i64 0,.int .i64 0,.int .i64 0,.int .i64 0,.int .i64 0,.int .i64 0,.int .i64 0,.int .i64 0,.int .i64 0,.int .i64 0,.int .i64 0,.int .i64 0,.int .i64 0,.int .i64 0,.int .i64 0,.int .i64 0,.int .i64 0,.int .i64 0,.int .i64 0,.int .i64 0,.int .i64 0,.int .i64 0,.int .i64 0,.int .i64 0,.int .i64 0,.int .i64 0,.int .i64 0],.slice none 0 0],[]⟩).memory:=
 laidMet_of_run' 8 (by kernel_rfl) (by kernel_rfl)
set_option maxRecDepth 100000 in
theorem I_(os:Os)(started:os.Started)(H:Type)(enc:TypeId×Value->H)(F:Stop.Interp):
 ReturnsInHanded {} Tryz.checked os 8 .any ((OpenSpec.ofChange Rows.channelHeldSpec).preRow enc Tryz.prog Tryz.f8 Rows.channelHeldRow.domain false Rows.channelHeldRow.laid) (((OpenSpec.ofChange Rows.channelHeldSpec).at F).post enc Tryz.prog Tryz.f8 false true false false):=by
 obtain⟨places,hx⟩:=reads os enc
 refine returnsInHanded_of_row (C:=Tryz.checked) (s:=OpenSpec.ofChange Rows.channelHeldSpec) own started (by kernel_rfl) Tryz.func8
  (witness_row_at (enc:=enc) (C:=Tryz.checked) false (World.doorLaid Tryz.prog 400 os) #[.agg #[.int .i64 0,.int .i64 0,.int .i64 0,.int .i64 0,.int .i64 0,.int .i64 0,.int .i64 0,.int .i64 0,.int .i64 0,.int .i64 0,.int .i64 0,.int .i64 0,.int .i64 0,.int .i64 0,.int .i64 0,.int .i64 0,.int .i64 0,.int .i64 0,.int .i64 0,.int .i64 0,.int .i64 0,.int .i64 0,.int .i64 0,.int .i64 0,.int .i64 0,.int .i64 0,.int .i64 0,.int .i64 0,.int .i64 0,.int .i64 0,.int .i64 0],.slice none 0 0] rfl (by kernel_rfl) (by kernel_rfl) (by kernel_rfl)
   (OpenSpec.preRow_of_cond 8 hx (by kernel_rfl) (λk hk=>by cases hk) (by kernel_rfl) (Fs os))) ?_
 intro W base args ds gs before hval hW _ _ _ hL _ _
 have hW':=hW
 obtain⟨p,q,hA0,hV,rfl,hfz,hnd⟩:=hW
 have hA:DataW.TrodAll enc Tryz.prog W 0 (λ_=>true) true Tryz.f8.params.toList args.toList ds p:=hA0
 rw[Tryz.params8]at hA hval
 obtain⟨v0,v1,d0,d1,p0,p1,rfl,rfl,rfl,h0,h1⟩:=trodAll_two hA
 obtain⟨c,hc,rfl⟩:=Hx (hval 0 _ v0 rfl rfl) h0
 obtain⟨tA,tn,tc,htA,htn,htc,rfl⟩:=FJ (hval 1 _ v1 rfl rfl) h1
 obtain⟨rfl,rfl⟩:=trodVars_none hV
 have hg:=Ly (L:=Rows.channelHeldRow.laid) hL (List.Mem.head _)
 have hl:=Li (L:=Rows.channelHeldRow.laid) hL (List.Mem.tail _ (List.Mem.head _))
 have hgp:=LE (L:=Rows.channelHeldRow.laid) hL (List.Mem.tail _ (List.Mem.tail _ (List.Mem.head _)))
 have hgt:=K_ (L:=Rows.channelHeldRow.laid) hL (List.Mem.tail _ (List.Mem.tail _ (List.Mem.tail _ (List.Mem.head _))))
 have hgr:=LN (L:=Rows.channelHeldRow.laid) hL (List.Mem.tail _ (List.Mem.tail _ (List.Mem.tail _ (List.Mem.tail _ (List.Mem.head _)))))
 refine(YB W c tA tn tc hc htn (RT hg hl hgp hgt hgr)).mono ?_
 rintro e W' ⟨rfl,hbel⟩
 exact⟨_,rfl,Ji hW' rfl rfl rfl rfl (by kernel_rfl) Tryz.underlying4 Fh (by kernel_rfl) hbel⟩
theorem Q6:Rows.ChannelHeldSaid:=
 OpenClaim.holds_of_cond 8 Tryz.f8 rfl rfl rfl rfl rfl rfl rfl ⟨rfl,rfl,rfl,rfl,rfl⟩ rfl rfl rfl rfl rfl (by kernel_rfl) Tryz.func8 (by kernel_rfl)
  (of_decide_eq_true (by kernel_rfl)) (by unfold Func.isWrapper;first|(rw[if_pos (by decide+kernel)];kernel_rfl)|(rw[if_neg (by decide+kernel)];exact⟨rfl,rfl⟩))
  (λos started H enc _ F=>by rw[OpenClaim.pre_eq_preRow];exact I_ os started H enc F)
theorem Mu(f:FuncId)(fn:Func)(hf:Tryz.pinned.checked.prog.funcNamed "aneroid/aneroidlaw20.ChannelHeld" =some f)(hfn:Tryz.pinned.checked.prog.funcs[f]? =some fn):
 Rows.channelHeldCard.stood.looks=Tryz.pinned.checked.prog.looks []/\ ∀(j:Nat) t,fn.params[j]? =some t->Tryz.pinned.checked.prog.wantsStandIn t=false:=by
 obtain rfl:f=8:=Option.some.inj ((show Tryz.prog.funcNamed "aneroid/aneroidlaw20.ChannelHeld" =some 8 by kernel_rfl).symm.trans hf)|>.symm
 obtain rfl:fn=Tryz.f8:=(Option.some.inj (Tryz.func8.symm.trans hfn)).symm
 refine⟨by kernel_rfl,λj t ht=> ?_⟩
 have hall:(Tryz.f8.params.all λt=> !Tryz.prog.wantsStandIn t)=true:=by kernel_rfl
 exact Bool.not_eq_true' _▸(Array.all_eq_true_iff_forall_mem.1 hall) t (Array.mem_of_getElem? ht)
theorem card:Rows.ChannelHeldCardSaid:=
 Claim7.holds_tied_plain_at .later [] _ _ _ _ Q6 (λ_ h=>by cases h) (by kernel_rfl) (λ_ h=>by cases h) channelHeld_row_tie rfl ⟨rfl,rfl⟩ (by kernel_rfl) rfl Mu (by kernel_rfl)
end channelHeld
end Go.Proofs.YtikajapjkdloaaaGreatDoor
