/- AccelPlays is proved: whatever counts are taken in, what each call answers is the document's; a copy goes its own way; no condition. -/
import Derived.Test.YtpgkchbgjciinaaKq
import Derived.Test.YtpgkchbgjciinaaAi
import Derived.Deep.Slices
namespace Go.Proofs.Ytpgkchbgjciinaa
open Go.RowKit Go.WideShapes Go.ChangeShapes Go.WideElems
set_option linter.unusedSimpArgs false
set_option linter.unusedVariables false
theorem law_AccelPlays (c : Nat → Int) (A : Option Addr) (n cap : Nat) (t : Int) (hc : ∀ i, I64 (c i)) (hn : n ≤ 9223372036854775807)
    (w : World) (hA : ∃ xs : Nat → Int, ∀ i, i < n → ∃ a, A = some a ∧ (a.add i).block < w.heap.size ∧ w.cell? (a.add i) = some (.int .i64 (xs i))) (ht : 0 ≤ t ∧ t ≤ 255) :
    Calls Try.prog 7 #[.agg #[.int .i64 (c 0), .int .i64 (c 1), .int .i64 (c 2), .int .i64 (c 3), .int .i64 (c 4), .int .i64 (c 5), .int .i64 (c 6), .int .i64 (c 7), .int .i64 (c 8), .int .i64 (c 9), .int .i64 (c 10), .int .i64 (c 11), .int .i64 (c 12), .int .i64 (c 13), .int .i64 (c 14), .int .i64 (c 15), .int .i64 (c 16), .int .i64 (c 17), .int .i64 (c 18), .int .i64 (c 19), .int .i64 (c 20), .int .i64 (c 21), .int .i64 (c 22), .int .i64 (c 23), .int .i64 (c 24), .int .i64 (c 25), .int .i64 (c 26), .int .i64 (c 27), .int .i64 (c 28), .int .i64 (c 29), .int .i64 (c 30)], .slice A n cap, .int .u8 t] w fun e w' => e = .returned (.bool true) ∧ Below w.heap.size w w' := by
  obtain ⟨xs, hA⟩ := hA
  rcases Nat.lt_or_ge 2000 n with h | h
  · exact law_AccelPlays_long c hc A n cap t hn h w
  · by_cases hk : ckC c = 0
    · exact law_AccelPlays_ok c hc A n cap t hn w h hk ht xs hA
    · exact law_AccelPlays_bad c hc A n cap t hn h hk w
section
variable {H : Type} {enc : TypeId × Value → H} {w : World} {base : Nat} {spare : Nat → Bool} {held : Bool} {r : Reach} {b0 : Nat} {v : Value} {d : DataW H} {p : List MemPlace}
theorem open_u8 (hv : Value.okWide Try.prog w r b0 5 v) (h : DataW.Trod enc Try.prog w base spare held 5 v d p) : ∃ x : Int, (0 ≤ x ∧ x ≤ 255) ∧ v = .int .u8 x := by
  obtain ⟨x, rfl, _, _, wf⟩ := open_int Try.underlying5 hv h
  exact ⟨x, bounds_u8 wf, rfl⟩
theorem open_i64s (hv : Value.okWide Try.prog w r b0 50 v) (h : DataW.Trod enc Try.prog w base spare held 50 v d p) :
    ∃ (A : Option Addr) (n cap : Nat), n ≤ 9223372036854775807 ∧ (∃ xs : Nat → Int, ∀ i, i < n → ∃ a, A = some a ∧ (a.add i).block < w.heap.size ∧ w.cell? (a.add i) = some (.int .i64 (xs i))) ∧ True ∧ v = .slice A n cap := by
  obtain ⟨A, n, cap, rfl⟩ := okWide_slice Try.underlying50 hv
  obtain ⟨fuel, hf⟩ := h
  refine ⟨A, n, cap, ?_, ?_, trivial, rfl⟩
  all_goals rcases Go.Deep.open_slice1 Try.underlying50 (by kernel_rfl) hf with ⟨hcs, _⟩ | ⟨a, len, cap', m, k, V, D, Pl, hcs, _, hle, hcap, hm, _, hel⟩
  all_goals simp only [Value.cells, List.cons.injEq, Value.slice.injEq, and_true] at hcs
  · omega
  · have : maxLen ≤ 9223372036854775807 := by decide
    omega
  · exact ⟨fun _ => 0, fun i hi => by omega⟩
  · obtain ⟨rfl, rfl, rfl⟩ := hcs
    refine ⟨fun i => intOf (V i), fun i hi => ⟨a, rfl, ?_⟩⟩
    have him : i < m := by rw [hm]; split <;> omega
    obtain ⟨hcell, htr⟩ := hel i him
    obtain ⟨x, ex, _, wx⟩ := DataW.trod_int Try.underlying2 htr
    obtain e : V i = .int .i64 x := by simpa using ex
    refine ⟨World.block_lt_of_cell? w _ hcell, ?_⟩
    show w.cell? _ = some (.int .i64 (intOf (V i)))
    rw [hcell, e]; rfl
end

namespace accelPlays
theorem reads (os : Os) {H : Type} (enc : TypeId × Value → H) : ∃ places, DataW.whole enc Try.prog ((World.doorLaid Try.prog 400 os).forCall (fun _ _ => 0) ⟨#[], #[.agg #[.int .i64 0, .int .i64 0, .int .i64 0, .int .i64 0, .int .i64 0, .int .i64 0, .int .i64 0, .int .i64 0, .int .i64 0, .int .i64 0, .int .i64 0, .int .i64 0, .int .i64 0, .int .i64 0, .int .i64 0, .int .i64 0, .int .i64 0, .int .i64 0, .int .i64 0, .int .i64 0, .int .i64 0, .int .i64 0, .int .i64 0, .int .i64 0, .int .i64 0, .int .i64 0, .int .i64 0, .int .i64 0, .int .i64 0, .int .i64 0, .int .i64 0], .slice none 0 0, .int .u8 0], []⟩).memory Try.f7.params.toList Rows.accelPlaysSpec.vars false #[.agg #[.int .i64 0, .int .i64 0, .int .i64 0, .int .i64 0, .int .i64 0, .int .i64 0, .int .i64 0, .int .i64 0, .int .i64 0, .int .i64 0, .int .i64 0, .int .i64 0, .int .i64 0, .int .i64 0, .int .i64 0, .int .i64 0, .int .i64 0, .int .i64 0, .int .i64 0, .int .i64 0, .int .i64 0, .int .i64 0, .int .i64 0, .int .i64 0, .int .i64 0, .int .i64 0, .int .i64 0, .int .i64 0, .int .i64 0, .int .i64 0, .int .i64 0], .slice none 0 0, .int .u8 0].toList 8 = some ([.agg [.agg [.lit (.int .i64 0), .lit (.int .i64 0), .lit (.int .i64 0)], .agg [.lit (.int .i64 0), .lit (.int .i64 0), .lit (.int .i64 0)], .lit (.int .i64 0), .lit (.int .i64 0), .agg [.lit (.int .i64 0), .lit (.int .i64 0), .lit (.int .i64 0)], .agg [.lit (.int .i64 0), .lit (.int .i64 0), .lit (.int .i64 0)], .agg [.lit (.int .i64 0), .lit (.int .i64 0), .lit (.int .i64 0)], .agg [.lit (.int .i64 0), .lit (.int .i64 0), .lit (.int .i64 0)], .lit (.int .i64 0), .agg [.lit (.int .i64 0), .lit (.int .i64 0), .lit (.int .i64 0)], .lit (.int .i64 0), .lit (.int .i64 0), .lit (.int .i64 0), .lit (.int .i64 0), .lit (.int .i64 0), .lit (.int .i64 0), .lit (.int .i64 0)], .nil, .lit (.int .u8 0)], [], places) :=
  ⟨[], by kernel_rfl⟩
theorem laid_met (os : Os) : laidMet Try.prog Rows.accelPlaysRow.laid ((World.doorLaid Try.prog 400 os).forCall (fun _ _ => 0) ⟨#[], #[.agg #[.int .i64 0, .int .i64 0, .int .i64 0, .int .i64 0, .int .i64 0, .int .i64 0, .int .i64 0, .int .i64 0, .int .i64 0, .int .i64 0, .int .i64 0, .int .i64 0, .int .i64 0, .int .i64 0, .int .i64 0, .int .i64 0, .int .i64 0, .int .i64 0, .int .i64 0, .int .i64 0, .int .i64 0, .int .i64 0, .int .i64 0, .int .i64 0, .int .i64 0, .int .i64 0, .int .i64 0, .int .i64 0, .int .i64 0, .int .i64 0, .int .i64 0], .slice none 0 0, .int .u8 0], []⟩).memory :=
  laidMet_of_run' 8 (by kernel_rfl) (by kernel_rfl)
set_option maxRecDepth 100000 in
theorem lifted (os : Os) (started : os.Started) (H : Type) (enc : TypeId × Value → H) (F : Stop.Interp) :
    ReturnsInHanded {} Try.checked os 7 .any ((OpenSpec.ofChange Rows.accelPlaysSpec).preRow enc Try.prog Try.f7 Rows.accelPlaysRow.domain false Rows.accelPlaysRow.laid) (((OpenSpec.ofChange Rows.accelPlaysSpec).at F).post enc Try.prog Try.f7 false true false false) := by
  obtain ⟨places, hx⟩ := reads os enc
  refine returnsInHanded_of_row (C := Try.checked) (s := OpenSpec.ofChange Rows.accelPlaysSpec) own started (by kernel_rfl) Try.func7
    (witness_row_at (enc := enc) (C := Try.checked) false (World.doorLaid Try.prog 400 os) #[.agg #[.int .i64 0, .int .i64 0, .int .i64 0, .int .i64 0, .int .i64 0, .int .i64 0, .int .i64 0, .int .i64 0, .int .i64 0, .int .i64 0, .int .i64 0, .int .i64 0, .int .i64 0, .int .i64 0, .int .i64 0, .int .i64 0, .int .i64 0, .int .i64 0, .int .i64 0, .int .i64 0, .int .i64 0, .int .i64 0, .int .i64 0, .int .i64 0, .int .i64 0, .int .i64 0, .int .i64 0, .int .i64 0, .int .i64 0, .int .i64 0, .int .i64 0], .slice none 0 0, .int .u8 0] rfl (by kernel_rfl) (by kernel_rfl) (by kernel_rfl)
      (OpenSpec.preRow_of_cond 8 hx (by kernel_rfl) (fun k hk => by cases hk) (by kernel_rfl) (laid_met os))) ?_
  intro W base args ds gs before hval hW _ _ _ hL _ _
  have hW' := hW
  obtain ⟨p, q, hA0, hV, rfl, hfz, hnd⟩ := hW
  have hA : DataW.TrodAll enc Try.prog W 0 (fun _ => true) true Try.f7.params.toList args.toList ds p := hA0
  rw [Try.params7] at hA hval
  obtain ⟨v0, v1, v2, d0, d1, d2, p0, p1, p2, rfl, rfl, rfl, h0, h1, h2⟩ := trodAll_three hA
  obtain ⟨c, hc, rfl⟩ := open_conf (hval 0 _ v0 rfl rfl) h0
  obtain ⟨sA, sn, sc, hsA, hsn, hsc, rfl⟩ := open_i64s (hval 1 _ v1 rfl rfl) h1
  obtain ⟨t, ht, rfl⟩ := open_u8 (hval 2 _ v2 rfl rfl) h2
  obtain ⟨rfl, rfl⟩ := trodVars_none hV
  refine ((fun c A n cap t hc h1 h2 _ ht => law_AccelPlays c A n cap t hc h1 W h2 ht) c sA sn sc t hc hsA hsn hsc ht).mono ?_
  rintro e W' ⟨rfl, hbel⟩
  exact ⟨_, rfl, law_post hW' rfl rfl rfl rfl (by kernel_rfl) Try.underlying4 law_laidOut (by kernel_rfl) hbel⟩
theorem said : Rows.AccelPlaysSaid :=
  OpenClaim.holds_of_cond 7 Try.f7 rfl rfl rfl rfl rfl rfl rfl ⟨rfl, rfl, rfl, rfl, rfl⟩ rfl rfl rfl rfl rfl (by kernel_rfl) Try.func7 (by kernel_rfl)
    (of_decide_eq_true (by kernel_rfl)) (by unfold Func.isWrapper; first | (rw [if_pos (by decide +kernel)]; kernel_rfl) | (rw [if_neg (by decide +kernel)]; exact ⟨rfl, rfl⟩))
    (fun os started H enc _ F => by rw [OpenClaim.pre_eq_preRow]; exact lifted os started H enc F)
end accelPlays
end Go.Proofs.Ytpgkchbgjciinaa
