/- GainPlays is proved: the best gain by any doubt and spread, that of any cycle, and whether it is mild, are the document's; its condition: the variables none and least of the package wide hold what their initialisers lay. -/
import Derived.Test.YtpdggnocnaaanaaDoorNe
import Derived.Test.YtpdggnocnaaanaaDoorLq
import Derived.Lib.SmallJoins
namespace Go.Proofs.YtpdggnocnaaanaaDoor
open Go.RowKit Go.WideShapes Go.ChangeShapes Go.WideElems
set_option maxRecDepth 100000
def isI64 (v : Value) : Prop := ∃ x : Int, I64 x ∧ v = .int .i64 x
section
variable {H : Type} {enc : TypeId × Value → H} {P : Program} {w : World} {base : Nat} {spare : Nat → Bool} {held : Bool} {m : Nat} {l : List Value} {y : DataW H × List MemPlace}
theorem piece_row {n : Nat} {t e : TypeId} (ht : P.underlying t = some (.array n e)) (he : P.underlying e = some (.int .i64)) (hc : P.cellsOf e = 1) (hct : P.cellsOf t = n)
    (h : DataW.trod enc P w base spare held m t l = some y) : ∀ v ∈ l, isI64 v := by
  obtain ⟨ys, k, _, _, hl, hyl, hel⟩ := DataW.trod_array ht h
  intro v hv
  obtain ⟨i, hi, rfl⟩ := List.mem_iff_getElem.1 hv
  have q := hel i (by omega)
  rw [hc, Nat.mul_one] at q
  have e1 : (l.drop i).take 1 = [l[i]] := by rw [List.drop_eq_getElem_cons hi]; rfl
  rw [e1, List.getElem?_eq_getElem (by omega)] at q
  obtain ⟨x, ex, _, wx⟩ := DataW.trod_int he q
  exact ⟨x, wf_i64 wx, by simpa using ex⟩
end
section
variable {H : Type} {enc : TypeId × Value → H} {w : World} {base : Nat} {spare : Nat → Bool} {held : Bool} {r : Reach} {b0 : Nat} {v : Value} {d : DataW H} {p : List MemPlace}
theorem open_case (hv : Value.okWide Tryd.prog w r b0 63 v) (h : DataW.Trod enc Tryd.prog w base spare held 63 v d p) :
    ∃ (m : Nat → Int) (s : Int) (c : Bool) (t : Nat → Int), (∀ i, I64 (m i)) ∧ I64 s ∧ True ∧ (∀ i, I64 (t i)) ∧ v = .agg #[.int .i64 (m 0), .int .i64 (m 1), .int .i64 (m 2), .int .i64 (m 3), .int .i64 (m 4), .int .i64 (m 5), .int .i64 s, .bool c, .int .i64 (t 0), .int .i64 (t 1), .int .i64 (t 2)] := by
  simp only [Value.okWide, Tryd.underlying63] at hv
  obtain ⟨cs, rfl, hsz, _⟩ := hv
  obtain ⟨fuel, hf⟩ := h
  obtain ⟨y0, y1, y2, y3, n, _, hl, k0, k1, k2, k3⟩ := Go.Joins.trod_struct4 Tryd.underlying63 hf
  obtain ⟨l⟩ := cs
  simp only [Value.cells] at hl k0 k1 k2 k3
  rw [show Tryd.prog.cellsOf 63 = 11 by kernel_rfl] at hl
  simp only [show Tryd.prog.cellsOf 36 = 6 by kernel_rfl, show Tryd.prog.cellsOf 2 = 1 by kernel_rfl, show Tryd.prog.cellsOf 4 = 1 by kernel_rfl, show Tryd.prog.cellsOf 23 = 3 by kernel_rfl] at k0 k1 k2 k3
  match l, hl with
  | [a0, a1, a2, a3, a4, a5, a6, a7, a8, a9, a10], _ =>
    have q0 := piece_row Tryd.underlying36 Tryd.underlying2 (by kernel_rfl) (by kernel_rfl) k0
    have q3 := piece_row Tryd.underlying23 Tryd.underlying2 (by kernel_rfl) (by kernel_rfl) k3
    obtain ⟨s, es, _, ws⟩ := DataW.trod_int Tryd.underlying2 k1
    obtain ⟨c, ec, _⟩ := DataW.trod_bool Tryd.underlying4 k2
    have es' : [a6] = [Value.int .i64 s] := es
    have ec' : [a7] = [Value.bool c] := ec
    obtain rfl := List.head_eq_of_cons_eq es'
    obtain rfl := List.head_eq_of_cons_eq ec'
    have z0 : ∀ v ∈ [a0, a1, a2, a3, a4, a5], isI64 v := q0
    have z3 : ∀ v ∈ [a8, a9, a10], isI64 v := q3
    obtain ⟨x0, h0, rfl⟩ := z0 a0 (by simp)
    obtain ⟨x1, h1, rfl⟩ := z0 a1 (by simp)
    obtain ⟨x2, h2, rfl⟩ := z0 a2 (by simp)
    obtain ⟨x3, h3, rfl⟩ := z0 a3 (by simp)
    obtain ⟨x4, h4, rfl⟩ := z0 a4 (by simp)
    obtain ⟨x5, h5, rfl⟩ := z0 a5 (by simp)
    obtain ⟨x8, h8, rfl⟩ := z3 a8 (by simp)
    obtain ⟨x9, h9, rfl⟩ := z3 a9 (by simp)
    obtain ⟨x10, h10, rfl⟩ := z3 a10 (by simp)
    exact ⟨v6 x0 x1 x2 x3 x4 x5, s, c, v3 x8 x9 x10, v6_all h0 h1 h2 h3 h4 h5, wf_i64 ws, trivial, v3_all h8 h9 h10, rfl⟩
end

namespace gainPlays
theorem reads (os : Os) {H : Type} (enc : TypeId × Value → H) : ∃ places, DataW.whole enc Tryd.prog ((World.doorLaid Tryd.prog 400 os).forCall (fun _ _ => 0) ⟨#[], #[.agg #[.int .i64 0, .int .i64 0, .int .i64 0, .int .i64 0, .int .i64 0, .int .i64 0, .int .i64 0, .bool false, .int .i64 0, .int .i64 0, .int .i64 0]], []⟩).memory Tryd.f11.params.toList Rows.gainPlaysSpec.vars false #[.agg #[.int .i64 0, .int .i64 0, .int .i64 0, .int .i64 0, .int .i64 0, .int .i64 0, .int .i64 0, .bool false, .int .i64 0, .int .i64 0, .int .i64 0]].toList 8 = some ([.agg [.agg [.lit (.int .i64 0), .lit (.int .i64 0), .lit (.int .i64 0), .lit (.int .i64 0), .lit (.int .i64 0), .lit (.int .i64 0)], .lit (.int .i64 0), .lit (.bool false), .agg [.lit (.int .i64 0), .lit (.int .i64 0), .lit (.int .i64 0)]]], [], places) :=
  ⟨[], by kernel_rfl⟩
theorem laid_met (os : Os) : laidMet Tryd.prog Rows.gainPlaysRow.laid ((World.doorLaid Tryd.prog 400 os).forCall (fun _ _ => 0) ⟨#[], #[.agg #[.int .i64 0, .int .i64 0, .int .i64 0, .int .i64 0, .int .i64 0, .int .i64 0, .int .i64 0, .bool false, .int .i64 0, .int .i64 0, .int .i64 0]], []⟩).memory :=
  laidMet_of_run' 8 (by kernel_rfl) (by kernel_rfl)
set_option maxRecDepth 100000 in
theorem lifted (os : Os) (started : os.Started) (H : Type) (enc : TypeId × Value → H) (F : Stop.Interp) :
    ReturnsInHanded {} Tryd.checked os 11 .any ((OpenSpec.ofChange Rows.gainPlaysSpec).preRow enc Tryd.prog Tryd.f11 Rows.gainPlaysRow.domain false Rows.gainPlaysRow.laid) (((OpenSpec.ofChange Rows.gainPlaysSpec).at F).post enc Tryd.prog Tryd.f11 false true false false) := by
  obtain ⟨places, hx⟩ := reads os enc
  refine returnsInHanded_of_row (C := Tryd.checked) (s := OpenSpec.ofChange Rows.gainPlaysSpec) own started (by kernel_rfl) Tryd.func11
    (witness_row_at (enc := enc) (C := Tryd.checked) false (World.doorLaid Tryd.prog 400 os) #[.agg #[.int .i64 0, .int .i64 0, .int .i64 0, .int .i64 0, .int .i64 0, .int .i64 0, .int .i64 0, .bool false, .int .i64 0, .int .i64 0, .int .i64 0]] rfl (by kernel_rfl) (by kernel_rfl) (by kernel_rfl)
      (OpenSpec.preRow_of_cond 8 hx (by kernel_rfl) (fun k hk => by cases hk) (by kernel_rfl) (laid_met os))) ?_
  intro W base args ds gs before hval hW _ _ _ hL _ _
  have hW' := hW
  obtain ⟨p, q, hA0, hV, rfl, hfz, hnd⟩ := hW
  have hA : DataW.TrodAll enc Tryd.prog W 0 (fun _ => true) true Tryd.f11.params.toList args.toList ds p := hA0
  rw [Tryd.params11] at hA hval
  obtain ⟨v0, d0, rfl, rfl, h0⟩ := trodAll_one hA
  obtain ⟨p, s, c, t, hp, hs, hc, ht, rfl⟩ := open_case (hval 0 _ v0 rfl rfl) h0
  obtain ⟨rfl, rfl⟩ := trodVars_none hV
  have hg := laid_GN (L := Rows.gainPlaysRow.laid) hL (List.Mem.head _)
  have hl := laid_GL (L := Rows.gainPlaysRow.laid) hL (List.Mem.tail _ (List.Mem.head _))
  refine (law_GainPlays p s c t hp hs hc ht W hg hl).mono ?_
  rintro e W' ⟨rfl, hbel⟩
  exact ⟨_, rfl, law_post hW' rfl rfl rfl rfl (by kernel_rfl) Tryd.underlying4 law_laidOut (by kernel_rfl) hbel⟩
theorem said : Rows.GainPlaysSaid :=
  OpenClaim.holds_of_cond 11 Tryd.f11 rfl rfl rfl rfl rfl rfl rfl ⟨rfl, rfl, rfl, rfl, rfl⟩ rfl rfl rfl rfl rfl (by kernel_rfl) Tryd.func11 (by kernel_rfl)
    (of_decide_eq_true (by kernel_rfl)) (by unfold Func.isWrapper; first | (rw [if_pos (by decide +kernel)]; kernel_rfl) | (rw [if_neg (by decide +kernel)]; exact ⟨rfl, rfl⟩))
    (fun os started H enc _ F => by rw [OpenClaim.pre_eq_preRow]; exact lifted os started H enc F)
theorem plain (f : FuncId) (fn : Func) (hf : Tryd.pinned.checked.prog.funcNamed "aneroid/aneroidlaw11.GainPlays" = some f) (hfn : Tryd.pinned.checked.prog.funcs[f]? = some fn) :
    false = Tryd.pinned.checked.prog.looks [] ∧ ∀ (j : Nat) t, fn.params[j]? = some t → Tryd.pinned.checked.prog.wantsStandIn t = false := by
  obtain rfl : f = 11 := Option.some.inj ((show Tryd.prog.funcNamed "aneroid/aneroidlaw11.GainPlays" = some 11 by kernel_rfl).symm.trans hf) |>.symm
  obtain rfl : fn = Tryd.f11 := (Option.some.inj (Tryd.func11.symm.trans hfn)).symm
  refine ⟨by kernel_rfl, fun j t ht => ?_⟩
  have hall : (Tryd.f11.params.all fun t => !Tryd.prog.wantsStandIn t) = true := by kernel_rfl
  exact Bool.not_eq_true' _ ▸ (Array.all_eq_true_iff_forall_mem.1 hall) t (Array.mem_of_getElem? ht)
/-- The card. -/
theorem card : Rows.GainPlaysCardSaid :=
  Claim7.holds_tied_plain_at .later [] _ _ _ _ said (fun _ h => by cases h) (by kernel_rfl) (fun _ h => by cases h) gainPlays_row_tie rfl ⟨rfl, rfl⟩ (by kernel_rfl) rfl plain (by kernel_rfl)
end gainPlays
end Go.Proofs.YtpdggnocnaaanaaDoor
