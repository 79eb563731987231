/- ConfUsual is proved: the default is as the document says; no condition. -/
import Derived.Test.YtpgkchbgjciinaaKq
import Derived.Test.YtpgkchbgjciinaaKn
namespace Go.Proofs.Ytpgkchbgjciinaa
open Go.RowKit Go.WideShapes Go.ChangeShapes Go.WideElems

namespace confUsual
theorem reads (os : Os) {H : Type} (enc : TypeId × Value → H) : ∃ places, DataW.whole enc Try.prog ((World.doorLaid Try.prog 400 os).forCall (fun _ _ => 0) ⟨#[], #[], []⟩).memory Try.f3.params.toList Rows.confUsualSpec.vars false #[].toList 8 = some ([], [], places) :=
  ⟨[], by kernel_rfl⟩
theorem laid_met (os : Os) : laidMet Try.prog Rows.confUsualRow.laid ((World.doorLaid Try.prog 400 os).forCall (fun _ _ => 0) ⟨#[], #[], []⟩).memory :=
  laidMet_of_run' 8 (by kernel_rfl) (by kernel_rfl)
set_option maxRecDepth 100000 in
theorem lifted (os : Os) (started : os.Started) (H : Type) (enc : TypeId × Value → H) (F : Stop.Interp) :
    ReturnsInHanded {} Try.checked os 3 .any ((OpenSpec.ofChange Rows.confUsualSpec).preRow enc Try.prog Try.f3 Rows.confUsualRow.domain false Rows.confUsualRow.laid) (((OpenSpec.ofChange Rows.confUsualSpec).at F).post enc Try.prog Try.f3 false true false false) := by
  obtain ⟨places, hx⟩ := reads os enc
  refine returnsInHanded_of_row (C := Try.checked) (s := OpenSpec.ofChange Rows.confUsualSpec) own started (by kernel_rfl) Try.func3
    (witness_row_at (enc := enc) (C := Try.checked) false (World.doorLaid Try.prog 400 os) #[] rfl (by kernel_rfl) (by kernel_rfl) (by kernel_rfl)
      (OpenSpec.preRow_of_cond 8 hx (by kernel_rfl) (fun k hk => by cases hk) (by kernel_rfl) (laid_met os))) ?_
  intro W base args ds gs before hval hW _ _ _ hL _ _
  have hW' := hW
  obtain ⟨p, q, hA0, hV, rfl, hfz, hnd⟩ := hW
  have hA : DataW.TrodAll enc Try.prog W 0 (fun _ => true) true Try.f3.params.toList args.toList ds p := hA0
  rw [Try.params3] at hA hval
  obtain ⟨rfl, rfl, rfl⟩ := trodAll_none hA
  obtain ⟨rfl, rfl⟩ := trodVars_none hV
  refine (law_ConfUsual   W ).mono ?_
  rintro e W' ⟨rfl, hbel⟩
  exact ⟨_, rfl, law_post hW' rfl rfl rfl rfl (by kernel_rfl) Try.underlying4 law_laidOut (by kernel_rfl) hbel⟩
theorem said : Rows.ConfUsualSaid :=
  OpenClaim.holds_of_cond 3 Try.f3 rfl rfl rfl rfl rfl rfl rfl ⟨rfl, rfl, rfl, rfl, rfl⟩ rfl rfl rfl rfl rfl (by kernel_rfl) Try.func3 (by kernel_rfl)
    (of_decide_eq_true (by kernel_rfl)) (by unfold Func.isWrapper; first | (rw [if_pos (by decide +kernel)]; kernel_rfl) | (rw [if_neg (by decide +kernel)]; exact ⟨rfl, rfl⟩))
    (fun os started H enc _ F => by rw [OpenClaim.pre_eq_preRow]; exact lifted os started H enc F)
end confUsual
end Go.Proofs.Ytpgkchbgjciinaa
