/- BankMiddle is proved: whatever the tellings; no condition. -/
import Derived.Test.YtgapefmkbmopnaaLa
import Derived.Test.YtgapefmkbmopnaaWa
import Derived.Test.YtgapefmkbmopnaaYi
import Derived.Stop.Joined
import Derived.Deep.DeepHandedRow
import Derived.Deep.Slices
import Derived.LaidMore
namespace Go.Proofs.Ytgapefmkbmopnaa
set_option linter.unusedSimpArgs false
set_option linter.unusedVariables false
open Go.RowKit Go.WideShapes Go.ChangeShapes Go.WideElems
theorem own : ownKnob Try.prog.godebug = none := by kernel_rfl
def iOf : Value → Int | .int _ x => x | _ => 0
def bOf : Value → Bool | .bool b => b | _ => false
section
variable {H : Type} {enc : TypeId × Value → H} {w : World} {base : Nat} {spare : Nat → Bool} {held : Bool} {r : Reach} {b0 : Nat} {v : Value} {d : DataW H} {p : List MemPlace}
theorem told_int {m : Nat} {u : Value} {t : TypeId} {x : DataW H × List MemPlace} (ht : Try.prog.underlying t = some (.int .i64)) (h : DataW.trod enc Try.prog w base spare held m t [u] = some x) : u = .int .i64 (iOf u) := by
  obtain ⟨x, ex, _, _⟩ := DataW.trod_int ht h
  obtain rfl : u = .int .i64 x := by simpa using ex
  rfl
theorem told_bool {m : Nat} {u : Value} {x : DataW H × List MemPlace} (h : DataW.trod enc Try.prog w base spare held m 4 [u] = some x) : u = .bool (bOf u) := by
  obtain ⟨b, h1, h2⟩ := DataW.trod_bool Try.underlying4 h
  obtain rfl : u = .bool b := by simpa using h1
  rfl
theorem told_row {m : Nat} {l : List Value} {x : DataW H × List MemPlace} (h : DataW.trod enc Try.prog w base spare held m 29 l = some x) :
    ∃ v0 v1 v2 v3 v4 v5 v6 v7 v8, l = [v0, v1, v2, v3, v4, v5, v6, v7, v8] ∧ v0 = .int .i64 (iOf v0) ∧ v1 = .bool (bOf v1) ∧ v2 = .bool (bOf v2) ∧ v3 = .bool (bOf v3) ∧ v4 = .bool (bOf v4) ∧ v5 = .bool (bOf v5) ∧ v6 = .int .i64 (iOf v6) ∧ v7 = .int .i64 (iOf v7) ∧ v8 = .int .i64 (iOf v8) := by
  obtain ⟨xs, n, _, _, hl, hxl, hel⟩ := DataW.trod_struct Try.underlying29 h
  rw [show Try.prog.cellsOf 29 = 9 by kernel_rfl] at hl
  have hx9 : xs.length = 9 := hxl
  match l, hl with
  | [v0, v1, v2, v3, v4, v5, v6, v7, v8], _ =>
    have q0 := hel 0
    simp only [List.getElem?_toArray, List.getElem?_cons_zero, List.getElem?_cons_succ, Option.some.injEq, forall_eq'] at q0
    rw [List.getElem?_eq_getElem (by omega)] at q0
    simp only [show Try.prog.cellsOf 3 = 1 by kernel_rfl] at q0
    have q1 := hel 1
    simp only [List.getElem?_toArray, List.getElem?_cons_zero, List.getElem?_cons_succ, Option.some.injEq, forall_eq'] at q1
    rw [List.getElem?_eq_getElem (by omega)] at q1
    simp only [show Try.prog.cellsOf 4 = 1 by kernel_rfl] at q1
    have q2 := hel 2
    simp only [List.getElem?_toArray, List.getElem?_cons_zero, List.getElem?_cons_succ, Option.some.injEq, forall_eq'] at q2
    rw [List.getElem?_eq_getElem (by omega)] at q2
    simp only [show Try.prog.cellsOf 4 = 1 by kernel_rfl] at q2
    have q3 := hel 3
    simp only [List.getElem?_toArray, List.getElem?_cons_zero, List.getElem?_cons_succ, Option.some.injEq, forall_eq'] at q3
    rw [List.getElem?_eq_getElem (by omega)] at q3
    simp only [show Try.prog.cellsOf 4 = 1 by kernel_rfl] at q3
    have q4 := hel 4
    simp only [List.getElem?_toArray, List.getElem?_cons_zero, List.getElem?_cons_succ, Option.some.injEq, forall_eq'] at q4
    rw [List.getElem?_eq_getElem (by omega)] at q4
    simp only [show Try.prog.cellsOf 4 = 1 by kernel_rfl] at q4
    have q5 := hel 5
    simp only [List.getElem?_toArray, List.getElem?_cons_zero, List.getElem?_cons_succ, Option.some.injEq, forall_eq'] at q5
    rw [List.getElem?_eq_getElem (by omega)] at q5
    simp only [show Try.prog.cellsOf 4 = 1 by kernel_rfl] at q5
    have q6 := hel 6
    simp only [List.getElem?_toArray, List.getElem?_cons_zero, List.getElem?_cons_succ, Option.some.injEq, forall_eq'] at q6
    rw [List.getElem?_eq_getElem (by omega)] at q6
    simp only [show Try.prog.cellsOf 2 = 1 by kernel_rfl] at q6
    have q7 := hel 7
    simp only [List.getElem?_toArray, List.getElem?_cons_zero, List.getElem?_cons_succ, Option.some.injEq, forall_eq'] at q7
    rw [List.getElem?_eq_getElem (by omega)] at q7
    simp only [show Try.prog.cellsOf 2 = 1 by kernel_rfl] at q7
    have q8 := hel 8
    simp only [List.getElem?_toArray, List.getElem?_cons_zero, List.getElem?_cons_succ, Option.some.injEq, forall_eq'] at q8
    rw [List.getElem?_eq_getElem (by omega)] at q8
    simp only [show Try.prog.cellsOf 2 = 1 by kernel_rfl] at q8
    refine ⟨v0, v1, v2, v3, v4, v5, v6, v7, v8, rfl, ?_, ?_, ?_, ?_, ?_, ?_, ?_, ?_, ?_⟩
    · exact told_int Try.underlying3 q0
    · exact told_bool q1
    · exact told_bool q2
    · exact told_bool q3
    · exact told_bool q4
    · exact told_bool q5
    · exact told_int Try.underlying2 q6
    · exact told_int Try.underlying2 q7
    · exact told_int Try.underlying2 q8
theorem open_tells (hv : Value.okWide Try.prog w r b0 22 v) (h : DataW.Trod enc Try.prog w base spare held 22 v d p) :
    ∃ (A : Option Addr) (n cap : Nat), True ∧ (n = 0 ∨ ∃ (t : Tl) (b o : Nat) (cs : List Value), A = some ⟨b, o, none⟩ ∧ Tells t cs o n ∧ b < w.heap.size ∧ ∀ i v, cs[i]? = some v → w.cell? ⟨b, i, none⟩ = some v) ∧ True ∧ v = .slice A n cap := by
  obtain ⟨A, n, cap, rfl⟩ := okWide_slice Try.underlying22 hv
  obtain ⟨fuel, hf⟩ := h
  refine ⟨A, n, cap, trivial, ?_, trivial, rfl⟩
  rcases Go.Deep.open_slice Try.underlying22 hf with ⟨hcs, _⟩ | ⟨a, len, cap', m, k, D, Pl, hcs, _, hle, hcap, hm, _, hel⟩
  all_goals simp only [Value.cells, List.cons.injEq, Value.slice.injEq, and_true] at hcs
  · exact Or.inl hcs.2.1
  obtain ⟨rfl, rfl, rfl⟩ := hcs
  rcases Nat.eq_zero_or_pos n with h0 | h0
  · exact Or.inl h0
  right
  rw [show Try.prog.cellsOf 29 = 9 by kernel_rfl] at hel
  have hnm : n ≤ m := by rw [hm]; split <;> omega
  obtain ⟨b, o, spot⟩ := a
  have each : ∀ i, i < n → ∃ v0 v1 v2 v3 v4 v5 v6 v7 v8, (∀ j, j < 9 → w.cell? ((Addr.add ⟨b, o, spot⟩ (i * 9)).add j) = [v0, v1, v2, v3, v4, v5, v6, v7, v8][j]?) ∧ v0 = .int .i64 (iOf v0) ∧ v1 = .bool (bOf v1) ∧ v2 = .bool (bOf v2) ∧ v3 = .bool (bOf v3) ∧ v4 = .bool (bOf v4) ∧ v5 = .bool (bOf v5) ∧ v6 = .int .i64 (iOf v6) ∧ v7 = .int .i64 (iOf v7) ∧ v8 = .int .i64 (iOf v8) := by
    intro i hi
    obtain ⟨cs', hcells, htr⟩ := hel i (by omega)
    obtain ⟨_, _, hc⟩ := World.cells?_some hcells
    obtain ⟨v0, v1, v2, v3, v4, v5, v6, v7, v8, rfl, hv⟩ := told_row htr
    exact ⟨v0, v1, v2, v3, v4, v5, v6, v7, v8, hc, hv⟩
  obtain ⟨u0, u1, u2, u3, u4, u5, u6, u7, u8, hu, _⟩ := each 0 h0
  have hcell := hu 0 (by decide)
  simp only [Nat.zero_mul, Addr.add_zero', List.getElem?_cons_zero] at hcell
  have hspot : spot = none := World.cell?_spot hcell
  subst hspot
  simp only [Addr.add_lit] at each
  obtain ⟨cur, e, z, hb⟩ : ∃ cur e z, w.heap[b]? = some (.cells cur e z) := by
    unfold World.cell? at hcell
    dsimp only at hcell
    split at hcell
    · rename_i c e z hq; exact ⟨_, _, _, hq⟩
    · cases hcell
  let V : Nat → Nat → Value := fun i j => (w.cell? ⟨b, o + i * 9 + j, none⟩).getD undef
  refine ⟨⟨fun i => iOf (V i 0), fun i => bOf (V i 1), fun i => bOf (V i 2), fun i => bOf (V i 3), fun i => bOf (V i 4), fun i => bOf (V i 5), fun i => iOf (V i 6), fun i => iOf (V i 7), fun i => iOf (V i 8)⟩, b, o, cur.toList, rfl, ?_, World.block_lt_of_cell? w ⟨b, o, none⟩ hcell, fun i v hv => ?_⟩
  · intro i hi j hj
    obtain ⟨v0, v1, v2, v3, v4, v5, v6, v7, v8, hc, e0, e1, e2, e3, e4, e5, e6, e7, e8⟩ := each i hi
    have hV : ∀ j, j < 9 → V i j = [v0, v1, v2, v3, v4, v5, v6, v7, v8].getD j undef := fun j hj => by
      show (w.cell? _).getD undef = _
      rw [hc j hj]; rfl
    have key : cur.toList[o + i * 9 + j]? = [v0, v1, v2, v3, v4, v5, v6, v7, v8][j]? := by
      rw [← hc j hj, cell_cells hb]; simp
    rw [key]
    have f0 : V i 0 = v0 := hV 0 (by decide)
    have f1 : V i 1 = v1 := hV 1 (by decide)
    have f2 : V i 2 = v2 := hV 2 (by decide)
    have f3 : V i 3 = v3 := hV 3 (by decide)
    have f4 : V i 4 = v4 := hV 4 (by decide)
    have f5 : V i 5 = v5 := hV 5 (by decide)
    have f6 : V i 6 = v6 := hV 6 (by decide)
    have f7 : V i 7 = v7 := hV 7 (by decide)
    have f8 : V i 8 = v8 := hV 8 (by decide)
    simp only [tc, f0, f1, f2, f3, f4, f5, f6, f7, f8, ← e0, ← e1, ← e2, ← e3, ← e4, ← e5, ← e6, ← e7, ← e8]
  · rw [cell_cells hb]; simpa using hv
end
theorem law_BankMiddle (A : Option Addr) (n c : Nat) (w : World) (h : n = 0 ∨ ∃ (t : Tl) (b o : Nat) (cs : List Value), A = some ⟨b, o, none⟩ ∧ Tells t cs o n ∧ b < w.heap.size ∧ ∀ i v, cs[i]? = some v → w.cell? ⟨b, i, none⟩ = some v) :
    Calls Try.prog 3 #[.slice A n c] w fun e w' => e = .returned (.bool true) ∧ Below w.heap.size w w' := by
  rcases Nat.lt_or_ge 60 n with hn | hn
  · exact law_Bank_big A n c hn w
  · rcases h with rfl | ⟨t, b, o, cs, rfl, hT, hb, hc⟩
    · exact law_Bank_none A c w
    · exact law_Bank_some t n b o c cs hn hT w hb hc

namespace bankMiddle
theorem reads (os : Os) {H : Type} (enc : TypeId × Value → H) : ∃ places, DataW.whole enc Try.prog ((World.doorLaid Try.prog 400 os).forCall (fun _ _ => 0) ⟨#[], #[.slice none 0 0], []⟩).memory Try.f3.params.toList Rows.bankMiddleSpec.vars false #[.slice none 0 0].toList 8 = some ([.nil], [], places) :=
  ⟨[], by kernel_rfl⟩
theorem laid_met (os : Os) : laidMet Try.prog Rows.bankMiddleRow.laid ((World.doorLaid Try.prog 400 os).forCall (fun _ _ => 0) ⟨#[], #[.slice none 0 0], []⟩).memory :=
  laidMet_of_run' 8 (by kernel_rfl) (by kernel_rfl)
set_option maxRecDepth 100000 in
theorem lifted (os : Os) (started : os.Started) (H : Type) (enc : TypeId × Value → H) (F : Stop.Interp) :
    ReturnsInHanded {} Try.checked os 3 .any ((OpenSpec.ofChange Rows.bankMiddleSpec).preRow enc Try.prog Try.f3 Rows.bankMiddleRow.domain false Rows.bankMiddleRow.laid) (((OpenSpec.ofChange Rows.bankMiddleSpec).at F).post enc Try.prog Try.f3 false true false false) := by
  obtain ⟨places, hx⟩ := reads os enc
  refine returnsInHanded_of_row (C := Try.checked) (s := OpenSpec.ofChange Rows.bankMiddleSpec) own started (by kernel_rfl) Try.func3
    (witness_row_at (enc := enc) (C := Try.checked) false (World.doorLaid Try.prog 400 os) #[.slice none 0 0] rfl (by kernel_rfl) (by kernel_rfl) (by kernel_rfl)
      (OpenSpec.preRow_of_cond 8 hx (by kernel_rfl) (fun k hk => by cases hk) (by kernel_rfl) (laid_met os))) ?_
  intro W base args ds gs before hval hW _ _ _ hL _ _
  have hW' := hW
  obtain ⟨p, q, hA0, hV, rfl, hfz, hnd⟩ := hW
  have hA : DataW.TrodAll enc Try.prog W 0 (fun _ => true) true Try.f3.params.toList args.toList ds p := hA0
  rw [Try.params3] at hA hval
  obtain ⟨v0, d0, rfl, rfl, h0⟩ := trodAll_one hA
  obtain ⟨tA, tn, tc, htA, htn, htc, rfl⟩ := open_tells (hval 0 _ v0 rfl rfl) h0
  obtain ⟨rfl, rfl⟩ := trodVars_none hV
  refine ((fun A n c _ h _ => law_BankMiddle A n c W h) tA tn tc htA htn htc).mono ?_
  rintro e W' ⟨rfl, hbel⟩
  exact ⟨_, rfl, law_post hW' rfl rfl rfl rfl (by kernel_rfl) Try.underlying4 law_laidOut (by kernel_rfl) hbel⟩
theorem said : Rows.BankMiddleSaid :=
  OpenClaim.holds_of_cond 3 Try.f3 rfl rfl rfl rfl rfl rfl rfl ⟨rfl, rfl, rfl, rfl, rfl⟩ rfl rfl rfl rfl rfl (by kernel_rfl) Try.func3 (by kernel_rfl)
    (of_decide_eq_true (by kernel_rfl)) (by unfold Func.isWrapper; first | (rw [if_pos (by decide +kernel)]; kernel_rfl) | (rw [if_neg (by decide +kernel)]; exact ⟨rfl, rfl⟩))
    (fun os started H enc _ F => by rw [OpenClaim.pre_eq_preRow]; exact lifted os started H enc F)
end bankMiddle
end Go.Proofs.Ytgapefmkbmopnaa
