/- ChannelNone is proved: ticks whose counts aren't good do what ones without do, all told alike; its condition: the variables none and least of the package wide, places of sym, table of atmos and rows of spread hold what their initialisers lay. -/
import Derived.Test.YtikajapjkdloaaaGreatDoor948
namespace Go.Proofs.YtikajapjkdloaaaGreatDoor
open Go.RowKit Go.WideShapes Go.ChangeShapes
set_option maxRecDepth 100000
theorem IU(w:World)(c:Nat->Int)(A:Option Addr)(n cp:Nat)(hc: ∀i,Ai (c i))(h:n=0∨ ∃(T:Nat->Tk)(b o:Nat)(cs:List Value),A=some ⟨b,o,none⟩/\Ep T cs o n/\b<w.heap.size/\ ∀i v,cs[i]? =some v->w.cell? ⟨b,i,none⟩=some v)(hA:GA w):
 Calls Tryz.prog 7 #[cA c,.slice A n cp] w λe w'=>e=.returned (.bool true)/\Below w.heap.size w w':=by
 rcases Nat.lt_or_ge 1000 n with hn|hn
 ·exact Kx c A n cp hn w hA
 by_cases hk:Ct c=0
 ·rcases h with rfl|⟨T,b,o,cs,rfl,hT,hb,hx⟩
  ·exact JW c A cp hc hk w hA
  rcases Nat.eq_zero_or_pos n with h0|h0
  ·subst h0;exact JW c _ cp hc hk w hA
  exact KD c T b o n cp cs hc hk h0 hn hT w hA hb hx
 rcases h with rfl|⟨T,b,o,cs,rfl,hT,hb,hx⟩
 ·exact IL c A cp hc hk w hA
 rcases Nat.eq_zero_or_pos n with h0|h0
 ·subst h0;exact IL c _ cp hc hk w hA
 exact Kz c T b o n cp cs hc hk h0 hn hT w hA hb hx
namespace channelNone
theorem reads(os:Os){H:Type}(enc:TypeId×Value->H): ∃places,DataW.whole enc Tryz.prog ((World.doorLaid Tryz.prog 400 os).forCall (λ_ _=>0) ⟨#[],#[.agg #[.int .i64 0,.int .i64 0,.int .i64 0,.int .i64 0,.int .i64 0,.int .i64 0,.int .i64 0,.int .i64 0,.int .i64 0,.int .i64 0,.int .i64 0,.int .i64 0,.int .i64 0,.int .i64 0,.int .i64 0,.int .i64 0,.int .i64 0,.int .i64 0,.int .i64 0,.int .i64 0,.int .i64 0,.int .i64 0,.int .i64 0,.int .i64 0,.int .i64 0,.int .i64 0,.int .i64 0,.int .i64 0,.int .i64 0,.int .i64 0,.int .i64 0],.slice none 0 0],[]⟩).memory Tryz.f7.params.toList Rows.channelNoneSpec.vars false #[.agg #[.int .i64 0,.int .i64 0,.int .i64 0,.int .i64 0,.int .i64 0,.int .i64 0,.int .i64 0,.int .i64 0,.int .i64 0,.int .i64 0,.int .i64 0,.int .i64 0,.int .i64 0,.int .i64 0,.int .i64 0,.int .i64 0,.int .i64 0,.int .i64 0,.int .i64 0,.int .i64 0,.int .i64 0,.int .i64 0,.int .i64 0,.int .i64 0,.int .i64 0,.int .i64 0,.int .i64 0,.int .i64 0,.int .i64 0,.int .i64 0,.int .i64 0],.slice none 0 0].toList 8=some ([.agg [.agg [.lit (.int .i64 0),.lit (.int .i64 0),.lit (.int .i64 0)],.agg [.lit (.int .i64 0),.lit (.int .i64 0),.lit (.int .i64 0)],.lit (.int .i64 0),.lit (.int .i64 0),.agg [.lit (.int .i64 0),.lit (.int .i64 0),.lit (.int .i64 0)],.agg [.lit (.int .i64 0),.lit (.int .i64 0),.lit (.int .i64 0)],.agg [.lit (.int .i64 0),.lit (.int .i64 0),.lit (.int .i64 0)],.agg [.lit (.int .i64 0),.lit (.int .i64 0),.lit (.int .i64 0)],.lit (.int .i64 0),.agg [.lit (.int .i64 0),.lit (.int .i64 0),.lit (.int .i64 0)],.lit (.int .i64 0),.lit (.int .i64 0),.lit (.int .i64 0),.lit (.int .i64 0),.lit (.int .i64 0),.lit (.int .i64 0),.lit (.int .i64 0)],.nil],[],places):=
 ⟨[],by kernel_rfl⟩
theorem Fs(os:Os):laidMet Tryz.prog Rows.channelNoneRow.laid ((World.doorLaid Tryz.prog 400 os).forCall (λ_ _=>0) ⟨#[],#[.agg #[.int .i64 0,.int .i64 0,.int .i64 0,.int .i64 0,.int .i64 0,.int .i64 0,.int .i64 0,.int .i64 0,.int .i64 0,.int .i64 0,.int .i64 0,.int .i64 0,.int .i64 0,.int .i64 0,.int .i64 0,.int .i64 0,.int .i64 0,.int .i64 0,.int .i64 0,.int .i64 0,.int .i64 0,.int .i64 0,.int .i64 0,.int .i64 0,.int .i64 0,.int .i64 0,.int .i64 0,.int .i64 0,.int .i64 0,.int .i64 0,.int .i64 0],.slice none 0 0],[]⟩).memory:=
 laidMet_of_run' 8 (by kernel_rfl) (by kernel_rfl)
set_option maxRecDepth 100000 in
theorem I_(os:Os)(started:os.Started)(H:Type)(enc:TypeId×Value->H)(F:Stop.Interp):
 ReturnsInHanded {} Tryz.checked os 7 .any ((OpenSpec.ofChange Rows.channelNoneSpec).preRow enc Tryz.prog Tryz.f7 Rows.channelNoneRow.domain false Rows.channelNoneRow.laid) (((OpenSpec.ofChange Rows.channelNoneSpec).at F).post enc Tryz.prog Tryz.f7 false true false false):=by
 obtain⟨places,hx⟩:=reads os enc
 refine returnsInHanded_of_row (C:=Tryz.checked) (s:=OpenSpec.ofChange Rows.channelNoneSpec) own started (by kernel_rfl) Tryz.func7
  (witness_row_at (enc:=enc) (C:=Tryz.checked) false (World.doorLaid Tryz.prog 400 os) #[.agg #[.int .i64 0,.int .i64 0,.int .i64 0,.int .i64 0,.int .i64 0,.int .i64 0,.int .i64 0,.int .i64 0,.int .i64 0,.int .i64 0,.int .i64 0,.int .i64 0,.int .i64 0,.int .i64 0,.int .i64 0,.int .i64 0,.int .i64 0,.int .i64 0,.int .i64 0,.int .i64 0,.int .i64 0,.int .i64 0,.int .i64 0,.int .i64 0,.int .i64 0,.int .i64 0,.int .i64 0,.int .i64 0,.int .i64 0,.int .i64 0,.int .i64 0],.slice none 0 0] rfl (by kernel_rfl) (by kernel_rfl) (by kernel_rfl)
   (OpenSpec.preRow_of_cond 8 hx (by kernel_rfl) (λk hk=>by cases hk) (by kernel_rfl) (Fs os))) ?_
 intro W base args ds gs before hval hW _ _ _ hL _ _
 have hW':=hW
 obtain⟨p,q,hA0,hV,rfl,hfz,hnd⟩:=hW
 have hA:DataW.TrodAll enc Tryz.prog W 0 (λ_=>true) true Tryz.f7.params.toList args.toList ds p:=hA0
 rw[Tryz.params7]at hA hval
 obtain⟨v0,v1,d0,d1,p0,p1,rfl,rfl,rfl,h0,h1⟩:=trodAll_two hA
 obtain⟨c,hc,rfl⟩:=Hx (hval 0 _ v0 rfl rfl) h0
 obtain⟨tA,tn,tc,htA,htn,htc,rfl⟩:=FJ (hval 1 _ v1 rfl rfl) h1
 obtain⟨rfl,rfl⟩:=trodVars_none hV
 have hg:=Ly (L:=Rows.channelNoneRow.laid) hL (List.Mem.head _)
 have hl:=Li (L:=Rows.channelNoneRow.laid) hL (List.Mem.tail _ (List.Mem.head _))
 have hgp:=LE (L:=Rows.channelNoneRow.laid) hL (List.Mem.tail _ (List.Mem.tail _ (List.Mem.head _)))
 have hgt:=K_ (L:=Rows.channelNoneRow.laid) hL (List.Mem.tail _ (List.Mem.tail _ (List.Mem.tail _ (List.Mem.head _))))
 have hgr:=LN (L:=Rows.channelNoneRow.laid) hL (List.Mem.tail _ (List.Mem.tail _ (List.Mem.tail _ (List.Mem.tail _ (List.Mem.head _)))))
 refine(IU W c tA tn tc hc htn (RT hg hl hgp hgt hgr)).mono ?_
 rintro e W' ⟨rfl,hbel⟩
 exact⟨_,rfl,Ji hW' rfl rfl rfl rfl (by kernel_rfl) Tryz.underlying4 Fh (by kernel_rfl) hbel⟩
theorem Q6:Rows.ChannelNoneSaid:=
 OpenClaim.holds_of_cond 7 Tryz.f7 rfl rfl rfl rfl rfl rfl rfl ⟨rfl,rfl,rfl,rfl,rfl⟩ rfl rfl rfl rfl rfl (by kernel_rfl) Tryz.func7 (by kernel_rfl)
  (of_decide_eq_true (by kernel_rfl)) (by unfold Func.isWrapper;first|(rw[if_pos (by decide+kernel)];kernel_rfl)|(rw[if_neg (by decide+kernel)];exact⟨rfl,rfl⟩))
  (λos started H enc _ F=>by rw[OpenClaim.pre_eq_preRow];exact I_ os started H enc F)
theorem Mu(f:FuncId)(fn:Func)(hf:Tryz.pinned.checked.prog.funcNamed "aneroid/aneroidlaw20.ChannelNone" =some f)(hfn:Tryz.pinned.checked.prog.funcs[f]? =some fn):
 Rows.channelNoneCard.stood.looks=Tryz.pinned.checked.prog.looks []/\ ∀(j:Nat) t,fn.params[j]? =some t->Tryz.pinned.checked.prog.wantsStandIn t=false:=by
 obtain rfl:f=7:=Option.some.inj ((show Tryz.prog.funcNamed "aneroid/aneroidlaw20.ChannelNone" =some 7 by kernel_rfl).symm.trans hf)|>.symm
 obtain rfl:fn=Tryz.f7:=(Option.some.inj (Tryz.func7.symm.trans hfn)).symm
 refine⟨by kernel_rfl,λj t ht=> ?_⟩
 have hall:(Tryz.f7.params.all λt=> !Tryz.prog.wantsStandIn t)=true:=by kernel_rfl
 exact Bool.not_eq_true' _▸(Array.all_eq_true_iff_forall_mem.1 hall) t (Array.mem_of_getElem? ht)
theorem card:Rows.ChannelNoneCardSaid:=
 Claim7.holds_tied_plain_at .later [] _ _ _ _ Q6 (λ_ h=>by cases h) (by kernel_rfl) (λ_ h=>by cases h) channelNone_row_tie rfl ⟨rfl,rfl⟩ (by kernel_rfl) rfl Mu (by kernel_rfl)
end channelNone
end Go.Proofs.YtikajapjkdloaaaGreatDoor
