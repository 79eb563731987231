/- ParsePuts: opened, and its row. -/
import Derived.Test.YtnmacidlgadmgaaDoorPq
import Derived.Stop.Joined
import Derived.Deep.DeepHandedRow
import Derived.Deep.Slices
import Derived.LaidMore
import Derived.Lay
namespace Go.Proofs.YtnmacidlgadmgaaDoor
set_option linter.unusedSimpArgs false
set_option linter.unusedVariables false
open Go.RowKit Go.WideShapes Go.ChangeShapes Go.WideElems
set_option maxRecDepth 100000
def isI64 (v : Value) : Prop := ∃ x : Int, I64 x ∧ v = .int .i64 x
section
variable {H : Type} {enc : TypeId × Value → H} {P : Program} {w : World} {base : Nat} {spare : Nat → Bool} {held : Bool} {m : Nat} {l : List Value} {y : DataW H × List MemPlace}
theorem piece_i64 {t : TypeId} (ht : P.underlying t = some (.int .i64)) (h : DataW.trod enc P w base spare held m t l = some y) : ∀ v ∈ l, isI64 v := by
  obtain ⟨x, rfl, _, wx⟩ := DataW.trod_int ht h
  intro v hv
  rw [List.mem_singleton] at hv
  subst hv
  exact ⟨x, wf_i64 wx, rfl⟩
theorem piece_row {n : Nat} {t e : TypeId} (ht : P.underlying t = some (.array n e)) (he : P.underlying e = some (.int .i64)) (hc : P.cellsOf e = 1) (hct : P.cellsOf t = n)
    (h : DataW.trod enc P w base spare held m t l = some y) : ∀ v ∈ l, isI64 v := by
  obtain ⟨ys, k, _, _, hl, hyl, hel⟩ := DataW.trod_array ht h
  intro v hv
  obtain ⟨i, hi, rfl⟩ := List.mem_iff_getElem.1 hv
  have q := hel i (by omega)
  rw [hc, Nat.mul_one] at q
  have e1 : (l.drop i).take 1 = [l[i]] := by rw [List.drop_eq_getElem_cons hi]; rfl
  rw [e1, List.getElem?_eq_getElem (by omega)] at q
  exact piece_i64 he q _ (List.mem_singleton.2 rfl)
theorem mem_piece {l : List Value} {o n j : Nat} (hj : j < l.length) (h1 : o ≤ j) (h2 : j < o + n) : l[j] ∈ (l.drop o).take n := by
  refine List.mem_iff_getElem.2 ⟨j - o, by simp; omega, ?_⟩
  simp only [List.getElem_take, List.getElem_drop]
  congr 1
  omega
end
section
variable {H : Type} {enc : TypeId × Value → H} {w : World} {base : Nat} {spare : Nat → Bool} {held : Bool} {r : Reach} {b0 : Nat} {v : Value} {d : DataW H} {p : List MemPlace}
set_option maxRecDepth 10000 in
theorem open_conf (hv : Value.okWide Tryd.prog w r b0 25 v) (h : DataW.Trod enc Tryd.prog w base spare held 25 v d p) : ∃ c : Nat → Int, (∀ i, I64 (c i)) ∧ v = .agg #[.int .i64 (c 0), .int .i64 (c 1), .int .i64 (c 2), .int .i64 (c 3), .int .i64 (c 4), .int .i64 (c 5), .int .i64 (c 6), .int .i64 (c 7), .int .i64 (c 8), .int .i64 (c 9), .int .i64 (c 10), .int .i64 (c 11), .int .i64 (c 12), .int .i64 (c 13), .int .i64 (c 14), .int .i64 (c 15), .int .i64 (c 16), .int .i64 (c 17), .int .i64 (c 18), .int .i64 (c 19), .int .i64 (c 20), .int .i64 (c 21), .int .i64 (c 22), .int .i64 (c 23), .int .i64 (c 24), .int .i64 (c 25), .int .i64 (c 26), .int .i64 (c 27), .int .i64 (c 28), .int .i64 (c 29), .int .i64 (c 30)] := by
  simp only [Value.okWide, Tryd.underlying25] at hv
  obtain ⟨cs, rfl, hsz, _⟩ := hv
  obtain ⟨fuel, hf⟩ := h
  obtain ⟨xs, n, _, _, hl, hxl, hel⟩ := DataW.trod_struct Tryd.underlying25 hf
  rw [show Tryd.prog.cellsOf 25 = 31 by kernel_rfl] at hl
  obtain ⟨l⟩ := cs
  simp only [Value.cells] at hf hl hel
  have hx17 : xs.length = 17 := hxl
  have piece : ∀ (o k : Nat), (o, k) ∈ [(0, 3), (3, 3), (6, 1), (7, 1), (8, 3), (11, 3), (14, 3), (17, 3), (20, 1), (21, 3), (24, 1), (25, 1), (26, 1), (27, 1), (28, 1), (29, 1), (30, 1)] → ∀ u ∈ (l.drop o).take k, isI64 u := by
    intro o k hm
    simp only [List.mem_cons, Prod.mk.injEq, List.not_mem_nil, or_false] at hm
    rcases hm with ⟨rfl, rfl⟩ | ⟨rfl, rfl⟩ | ⟨rfl, rfl⟩ | ⟨rfl, rfl⟩ | ⟨rfl, rfl⟩ | ⟨rfl, rfl⟩ | ⟨rfl, rfl⟩ | ⟨rfl, rfl⟩ | ⟨rfl, rfl⟩ | ⟨rfl, rfl⟩ | ⟨rfl, rfl⟩ | ⟨rfl, rfl⟩ | ⟨rfl, rfl⟩ | ⟨rfl, rfl⟩ | ⟨rfl, rfl⟩ | ⟨rfl, rfl⟩ | ⟨rfl, rfl⟩
    · have q := hel 0
      simp only [List.getElem?_toArray, List.getElem?_cons_zero, List.getElem?_cons_succ, Option.some.injEq, forall_eq'] at q
      rw [List.getElem?_eq_getElem (by omega)] at q
      simp only [show Tryd.prog.cellsOf 23 = 3 by kernel_rfl] at q
      exact piece_row Tryd.underlying23 Tryd.underlying2 (by kernel_rfl) (by kernel_rfl) q
    · have q := hel 1
      simp only [List.getElem?_toArray, List.getElem?_cons_zero, List.getElem?_cons_succ, Option.some.injEq, forall_eq'] at q
      rw [List.getElem?_eq_getElem (by omega)] at q
      simp only [show Tryd.prog.cellsOf 23 = 3 by kernel_rfl] at q
      exact piece_row Tryd.underlying23 Tryd.underlying2 (by kernel_rfl) (by kernel_rfl) q
    · have q := hel 2
      simp only [List.getElem?_toArray, List.getElem?_cons_zero, List.getElem?_cons_succ, Option.some.injEq, forall_eq'] at q
      rw [List.getElem?_eq_getElem (by omega)] at q
      simp only [show Tryd.prog.cellsOf 2 = 1 by kernel_rfl] at q
      exact piece_i64 Tryd.underlying2 q
    · have q := hel 3
      simp only [List.getElem?_toArray, List.getElem?_cons_zero, List.getElem?_cons_succ, Option.some.injEq, forall_eq'] at q
      rw [List.getElem?_eq_getElem (by omega)] at q
      simp only [show Tryd.prog.cellsOf 2 = 1 by kernel_rfl] at q
      exact piece_i64 Tryd.underlying2 q
    · have q := hel 4
      simp only [List.getElem?_toArray, List.getElem?_cons_zero, List.getElem?_cons_succ, Option.some.injEq, forall_eq'] at q
      rw [List.getElem?_eq_getElem (by omega)] at q
      simp only [show Tryd.prog.cellsOf 23 = 3 by kernel_rfl] at q
      exact piece_row Tryd.underlying23 Tryd.underlying2 (by kernel_rfl) (by kernel_rfl) q
    · have q := hel 5
      simp only [List.getElem?_toArray, List.getElem?_cons_zero, List.getElem?_cons_succ, Option.some.injEq, forall_eq'] at q
      rw [List.getElem?_eq_getElem (by omega)] at q
      simp only [show Tryd.prog.cellsOf 23 = 3 by kernel_rfl] at q
      exact piece_row Tryd.underlying23 Tryd.underlying2 (by kernel_rfl) (by kernel_rfl) q
    · have q := hel 6
      simp only [List.getElem?_toArray, List.getElem?_cons_zero, List.getElem?_cons_succ, Option.some.injEq, forall_eq'] at q
      rw [List.getElem?_eq_getElem (by omega)] at q
      simp only [show Tryd.prog.cellsOf 23 = 3 by kernel_rfl] at q
      exact piece_row Tryd.underlying23 Tryd.underlying2 (by kernel_rfl) (by kernel_rfl) q
    · have q := hel 7
      simp only [List.getElem?_toArray, List.getElem?_cons_zero, List.getElem?_cons_succ, Option.some.injEq, forall_eq'] at q
      rw [List.getElem?_eq_getElem (by omega)] at q
      simp only [show Tryd.prog.cellsOf 23 = 3 by kernel_rfl] at q
      exact piece_row Tryd.underlying23 Tryd.underlying2 (by kernel_rfl) (by kernel_rfl) q
    · have q := hel 8
      simp only [List.getElem?_toArray, List.getElem?_cons_zero, List.getElem?_cons_succ, Option.some.injEq, forall_eq'] at q
      rw [List.getElem?_eq_getElem (by omega)] at q
      simp only [show Tryd.prog.cellsOf 2 = 1 by kernel_rfl] at q
      exact piece_i64 Tryd.underlying2 q
    · have q := hel 9
      simp only [List.getElem?_toArray, List.getElem?_cons_zero, List.getElem?_cons_succ, Option.some.injEq, forall_eq'] at q
      rw [List.getElem?_eq_getElem (by omega)] at q
      simp only [show Tryd.prog.cellsOf 23 = 3 by kernel_rfl] at q
      exact piece_row Tryd.underlying23 Tryd.underlying2 (by kernel_rfl) (by kernel_rfl) q
    · have q := hel 10
      simp only [List.getElem?_toArray, List.getElem?_cons_zero, List.getElem?_cons_succ, Option.some.injEq, forall_eq'] at q
      rw [List.getElem?_eq_getElem (by omega)] at q
      simp only [show Tryd.prog.cellsOf 2 = 1 by kernel_rfl] at q
      exact piece_i64 Tryd.underlying2 q
    · have q := hel 11
      simp only [List.getElem?_toArray, List.getElem?_cons_zero, List.getElem?_cons_succ, Option.some.injEq, forall_eq'] at q
      rw [List.getElem?_eq_getElem (by omega)] at q
      simp only [show Tryd.prog.cellsOf 2 = 1 by kernel_rfl] at q
      exact piece_i64 Tryd.underlying2 q
    · have q := hel 12
      simp only [List.getElem?_toArray, List.getElem?_cons_zero, List.getElem?_cons_succ, Option.some.injEq, forall_eq'] at q
      rw [List.getElem?_eq_getElem (by omega)] at q
      simp only [show Tryd.prog.cellsOf 2 = 1 by kernel_rfl] at q
      exact piece_i64 Tryd.underlying2 q
    · have q := hel 13
      simp only [List.getElem?_toArray, List.getElem?_cons_zero, List.getElem?_cons_succ, Option.some.injEq, forall_eq'] at q
      rw [List.getElem?_eq_getElem (by omega)] at q
      simp only [show Tryd.prog.cellsOf 2 = 1 by kernel_rfl] at q
      exact piece_i64 Tryd.underlying2 q
    · have q := hel 14
      simp only [List.getElem?_toArray, List.getElem?_cons_zero, List.getElem?_cons_succ, Option.some.injEq, forall_eq'] at q
      rw [List.getElem?_eq_getElem (by omega)] at q
      simp only [show Tryd.prog.cellsOf 2 = 1 by kernel_rfl] at q
      exact piece_i64 Tryd.underlying2 q
    · have q := hel 15
      simp only [List.getElem?_toArray, List.getElem?_cons_zero, List.getElem?_cons_succ, Option.some.injEq, forall_eq'] at q
      rw [List.getElem?_eq_getElem (by omega)] at q
      simp only [show Tryd.prog.cellsOf 2 = 1 by kernel_rfl] at q
      exact piece_i64 Tryd.underlying2 q
    · have q := hel 16
      simp only [List.getElem?_toArray, List.getElem?_cons_zero, List.getElem?_cons_succ, Option.some.injEq, forall_eq'] at q
      rw [List.getElem?_eq_getElem (by omega)] at q
      simp only [show Tryd.prog.cellsOf 2 = 1 by kernel_rfl] at q
      exact piece_i64 Tryd.underlying2 q
  have key : ∀ u ∈ l, isI64 u := by
    intro u hu
    obtain ⟨j, hj, rfl⟩ := List.mem_iff_getElem.1 hu
    have hc : ∀ j : Fin 31, ∃ x ∈ [(0, 3), (3, 3), (6, 1), (7, 1), (8, 3), (11, 3), (14, 3), (17, 3), (20, 1), (21, 3), (24, 1), (25, 1), (26, 1), (27, 1), (28, 1), (29, 1), (30, 1)], x.1 ≤ j.1 ∧ j.1 < x.1 + x.2 := by decide
    obtain ⟨⟨o, k⟩, hm, h1, h2⟩ := hc ⟨j, by omega⟩
    exact piece o k hm _ (mem_piece hj h1 h2)
  obtain ⟨zs, hz, rfl⟩ := ints_of key
  have hzl : zs.length = 31 := by simpa using hl
  refine ⟨fun i => zs.getD i 0, fun i => ?_, ?_⟩
  · show I64 (zs.getD i 0)
    rw [List.getD_eq_getElem?_getD]
    cases hi : zs[i]? with
    | none => show I64 0; decide
    | some x => exact hz x (List.mem_of_getElem? hi)
  · have e : zs = (List.range 31).map (fun i => zs.getD i 0) := by
      apply List.ext_getElem (by simp [hzl])
      intro i h1 h2
      simp [List.getD_eq_getElem?_getD, List.getElem?_eq_getElem h1]
    rw [show (Value.agg (List.map (Value.int IntKind.i64) zs).toArray) = Value.agg (List.map (Value.int IntKind.i64) ((List.range 31).map (fun i => zs.getD i 0))).toArray from by rw [← e]]
    rfl
end
def iOf : Value → Int | .int _ x => x | _ => 0
def bOf : Value → Bool | .bool b => b | _ => false
section
variable {H : Type} {enc : TypeId × Value → H} {w : World} {base : Nat} {spare : Nat → Bool} {held : Bool} {r : Reach} {b0 : Nat} {v : Value} {d : DataW H} {p : List MemPlace}
end

theorem mem3 : ("internal/strconv.uint64pow10", Rows.laid_internal_strconv_uint64pow10) ∈ Rows.parsePutsRow.laid ∧ ("strconv.ErrSyntax", Rows.laid_strconv_ErrSyntax) ∈ Rows.parsePutsRow.laid ∧ ("strconv.ErrRange", Rows.laid_strconv_ErrRange) ∈ Rows.parsePutsRow.laid :=
  ⟨.tail _ (.tail _ (.head _)), .tail _ (.tail _ (.tail _ (.tail _ (.tail _ (.head _))))), .tail _ (.tail _ (.tail _ (.tail _ (.head _))))⟩

namespace parsePuts
theorem reads (os : Os) {H : Type} (enc : TypeId × Value → H) : ∃ places, DataW.whole enc Tryd.prog ((World.laidAll Tryd.prog os Rows.parsePutsRow.laid).forCall (fun _ _ => 0) ⟨#[], #[.agg #[.int .i64 0, .int .i64 0, .int .i64 0, .int .i64 0, .int .i64 0, .int .i64 0, .int .i64 0, .int .i64 0, .int .i64 0, .int .i64 0, .int .i64 0, .int .i64 0, .int .i64 0, .int .i64 0, .int .i64 0, .int .i64 0, .int .i64 0, .int .i64 0, .int .i64 0, .int .i64 0, .int .i64 0, .int .i64 0, .int .i64 0, .int .i64 0, .int .i64 0, .int .i64 0, .int .i64 0, .int .i64 0, .int .i64 0, .int .i64 0, .int .i64 0]], []⟩).memory Tryd.f3.params.toList Rows.parsePutsSpec.vars false #[.agg #[.int .i64 0, .int .i64 0, .int .i64 0, .int .i64 0, .int .i64 0, .int .i64 0, .int .i64 0, .int .i64 0, .int .i64 0, .int .i64 0, .int .i64 0, .int .i64 0, .int .i64 0, .int .i64 0, .int .i64 0, .int .i64 0, .int .i64 0, .int .i64 0, .int .i64 0, .int .i64 0, .int .i64 0, .int .i64 0, .int .i64 0, .int .i64 0, .int .i64 0, .int .i64 0, .int .i64 0, .int .i64 0, .int .i64 0, .int .i64 0, .int .i64 0]].toList 8 = some ([.agg [.agg [.lit (.int .i64 0), .lit (.int .i64 0), .lit (.int .i64 0)], .agg [.lit (.int .i64 0), .lit (.int .i64 0), .lit (.int .i64 0)], .lit (.int .i64 0), .lit (.int .i64 0), .agg [.lit (.int .i64 0), .lit (.int .i64 0), .lit (.int .i64 0)], .agg [.lit (.int .i64 0), .lit (.int .i64 0), .lit (.int .i64 0)], .agg [.lit (.int .i64 0), .lit (.int .i64 0), .lit (.int .i64 0)], .agg [.lit (.int .i64 0), .lit (.int .i64 0), .lit (.int .i64 0)], .lit (.int .i64 0), .agg [.lit (.int .i64 0), .lit (.int .i64 0), .lit (.int .i64 0)], .lit (.int .i64 0), .lit (.int .i64 0), .lit (.int .i64 0), .lit (.int .i64 0), .lit (.int .i64 0), .lit (.int .i64 0), .lit (.int .i64 0)]], [], places) :=
  ⟨[], by kernel_rfl⟩
theorem laid_met (os : Os) : laidMet Tryd.prog Rows.parsePutsRow.laid ((World.laidAll Tryd.prog os Rows.parsePutsRow.laid).forCall (fun _ _ => 0) ⟨#[], #[.agg #[.int .i64 0, .int .i64 0, .int .i64 0, .int .i64 0, .int .i64 0, .int .i64 0, .int .i64 0, .int .i64 0, .int .i64 0, .int .i64 0, .int .i64 0, .int .i64 0, .int .i64 0, .int .i64 0, .int .i64 0, .int .i64 0, .int .i64 0, .int .i64 0, .int .i64 0, .int .i64 0, .int .i64 0, .int .i64 0, .int .i64 0, .int .i64 0, .int .i64 0, .int .i64 0, .int .i64 0, .int .i64 0, .int .i64 0, .int .i64 0, .int .i64 0]], []⟩).memory :=
  laidMet_laidAll _ (by kernel_rfl) (by kernel_rfl)
set_option maxRecDepth 100000 in
theorem lifted (os : Os) (started : os.Started) (H : Type) (enc : TypeId × Value → H) (F : Stop.Interp) :
    ReturnsInHanded {} Tryd.checked os 3 .any ((OpenSpec.ofChange Rows.parsePutsSpec).preRow enc Tryd.prog Tryd.f3 Rows.parsePutsRow.domain false Rows.parsePutsRow.laid) (((OpenSpec.ofChange Rows.parsePutsSpec).at F).post enc Tryd.prog Tryd.f3 false true false false) := by
  obtain ⟨places, hx⟩ := reads os enc
  refine returnsInHanded_of_row (C := Tryd.checked) (s := OpenSpec.ofChange Rows.parsePutsSpec) own started (by kernel_rfl) Tryd.func3
    (witness_row_at (enc := enc) (C := Tryd.checked) false (World.laidAll Tryd.prog os Rows.parsePutsRow.laid) #[.agg #[.int .i64 0, .int .i64 0, .int .i64 0, .int .i64 0, .int .i64 0, .int .i64 0, .int .i64 0, .int .i64 0, .int .i64 0, .int .i64 0, .int .i64 0, .int .i64 0, .int .i64 0, .int .i64 0, .int .i64 0, .int .i64 0, .int .i64 0, .int .i64 0, .int .i64 0, .int .i64 0, .int .i64 0, .int .i64 0, .int .i64 0, .int .i64 0, .int .i64 0, .int .i64 0, .int .i64 0, .int .i64 0, .int .i64 0, .int .i64 0, .int .i64 0]] (World.laidAll_os _ _ _) (by kernel_rfl) (by kernel_rfl) (by kernel_rfl)
      (OpenSpec.preRow_of_cond 8 hx (by kernel_rfl) (fun k hk => by cases hk) (by kernel_rfl) (laid_met os))) ?_
  intro W base args ds gs before hval hW _ _ _ hL hSh _
  have hW' := hW
  obtain ⟨p, q, hA0, hV, rfl, hfz, hnd⟩ := hW
  have hA : DataW.TrodAll enc Tryd.prog W 0 (fun _ => true) true Tryd.f3.params.toList args.toList ds p := hA0
  rw [Tryd.params3] at hA hval
  obtain ⟨v0, d0, rfl, rfl, h0⟩ := trodAll_one hA
  obtain ⟨c, hc, rfl⟩ := open_conf (hval 0 _ v0 rfl rfl) h0
  obtain ⟨rfl, rfl⟩ := trodVars_none hV
  refine (law_Puts c hc W (PK_of hL hSh mem3.1 mem3.2.1 mem3.2.2)).mono ?_
  rintro e W' ⟨rfl, hbel⟩
  exact ⟨_, rfl, law_post hW' rfl rfl rfl rfl (by kernel_rfl) Tryd.underlying4 law_laidOut (by kernel_rfl) hbel⟩
theorem said : Rows.ParsePutsSaid :=
  OpenClaim.holds_of_cond 3 Tryd.f3 rfl rfl rfl rfl rfl rfl rfl ⟨rfl, rfl, rfl, rfl, rfl⟩ rfl rfl rfl rfl rfl (by kernel_rfl) Tryd.func3 (by kernel_rfl)
    (of_decide_eq_true (by kernel_rfl)) (by unfold Func.isWrapper; first | (rw [if_pos (by decide +kernel)]; kernel_rfl) | (rw [if_neg (by decide +kernel)]; exact ⟨rfl, rfl⟩))
    (fun os started H enc _ F => by rw [OpenClaim.pre_eq_preRow]; exact lifted os started H enc F)
theorem plain (f : FuncId) (fn : Func) (hf : Tryd.pinned.checked.prog.funcNamed "aneroid/aneroidlaw14.ParsePuts" = some f) (hfn : Tryd.pinned.checked.prog.funcs[f]? = some fn) :
    Rows.parsePutsCard.stood.looks = Tryd.pinned.checked.prog.looks [] ∧ ∀ (j : Nat) t, fn.params[j]? = some t → Tryd.pinned.checked.prog.wantsStandIn t = false := by
  obtain rfl : f = 3 := Option.some.inj ((show Tryd.prog.funcNamed "aneroid/aneroidlaw14.ParsePuts" = some 3 by kernel_rfl).symm.trans hf) |>.symm
  obtain rfl : fn = Tryd.f3 := (Option.some.inj (Tryd.func3.symm.trans hfn)).symm
  refine ⟨by kernel_rfl, fun j t ht => ?_⟩
  have hall : (Tryd.f3.params.all fun t => !Tryd.prog.wantsStandIn t) = true := by kernel_rfl
  exact Bool.not_eq_true' _ ▸ (Array.all_eq_true_iff_forall_mem.1 hall) t (Array.mem_of_getElem? ht)
/-- The card. -/
theorem card : Rows.ParsePutsCardSaid :=
  Claim7.holds_tied_plain_at .later [] _ _ _ _ said (fun _ h => by cases h) (by kernel_rfl) (fun _ h => by cases h) parsePuts_row_tie rfl ⟨rfl, rfl⟩ (by kernel_rfl) rfl plain (by kernel_rfl)
end parsePuts

end Go.Proofs.YtnmacidlgadmgaaDoor
