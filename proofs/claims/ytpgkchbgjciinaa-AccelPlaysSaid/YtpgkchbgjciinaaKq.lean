/- Opening of a configuration. -/
import Derived.Test.YtpgkchbgjciinaaLo
import Derived.Test.YtpgkchbgjciinaaWa
import Derived.Stop.Joined
import Derived.Deep.DeepHandedRow
import Derived.LaidMore
import Derived.LaidMore
namespace Go.Proofs.Ytpgkchbgjciinaa
set_option linter.unusedSimpArgs false
set_option linter.unusedVariables false
open Go.RowKit Go.WideShapes Go.ChangeShapes Go.WideElems
theorem own : ownKnob Try.prog.godebug = none := by kernel_rfl
def isI64 (v : Value) : Prop := ∃ x : Int, I64 x ∧ v = .int .i64 x
section
variable {H : Type} {enc : TypeId × Value → H} {P : Program} {w : World} {base : Nat} {spare : Nat → Bool} {held : Bool} {m : Nat} {l : List Value} {y : DataW H × List MemPlace}
theorem piece_i64 {t : TypeId} (ht : P.underlying t = some (.int .i64)) (h : DataW.trod enc P w base spare held m t l = some y) : ∀ v ∈ l, isI64 v := by
  obtain ⟨x, rfl, _, wx⟩ := DataW.trod_int ht h
  intro v hv
  rw [List.mem_singleton] at hv
  subst hv
  exact ⟨x, wf_i64 wx, rfl⟩
theorem piece_row {n : Nat} {t e : TypeId} (ht : P.underlying t = some (.array n e)) (he : P.underlying e = some (.int .i64)) (hc : P.cellsOf e = 1) (hct : P.cellsOf t = n)
    (h : DataW.trod enc P w base spare held m t l = some y) : ∀ v ∈ l, isI64 v := by
  obtain ⟨ys, k, _, _, hl, hyl, hel⟩ := DataW.trod_array ht h
  intro v hv
  obtain ⟨i, hi, rfl⟩ := List.mem_iff_getElem.1 hv
  have q := hel i (by omega)
  rw [hc, Nat.mul_one] at q
  have e1 : (l.drop i).take 1 = [l[i]] := by rw [List.drop_eq_getElem_cons hi]; rfl
  rw [e1, List.getElem?_eq_getElem (by omega)] at q
  exact piece_i64 he q _ (List.mem_singleton.2 rfl)
theorem mem_piece {l : List Value} {o n j : Nat} (hj : j < l.length) (h1 : o ≤ j) (h2 : j < o + n) : l[j] ∈ (l.drop o).take n := by
  refine List.mem_iff_getElem.2 ⟨j - o, by simp; omega, ?_⟩
  simp only [List.getElem_take, List.getElem_drop]
  congr 1
  omega
end
section
variable {H : Type} {enc : TypeId × Value → H} {w : World} {base : Nat} {spare : Nat → Bool} {held : Bool} {r : Reach} {b0 : Nat} {v : Value} {d : DataW H} {p : List MemPlace}
set_option maxRecDepth 10000 in
theorem open_conf (hv : Value.okWide Try.prog w r b0 25 v) (h : DataW.Trod enc Try.prog w base spare held 25 v d p) : ∃ c : Nat → Int, (∀ i, I64 (c i)) ∧ v = .agg #[.int .i64 (c 0), .int .i64 (c 1), .int .i64 (c 2), .int .i64 (c 3), .int .i64 (c 4), .int .i64 (c 5), .int .i64 (c 6), .int .i64 (c 7), .int .i64 (c 8), .int .i64 (c 9), .int .i64 (c 10), .int .i64 (c 11), .int .i64 (c 12), .int .i64 (c 13), .int .i64 (c 14), .int .i64 (c 15), .int .i64 (c 16), .int .i64 (c 17), .int .i64 (c 18), .int .i64 (c 19), .int .i64 (c 20), .int .i64 (c 21), .int .i64 (c 22), .int .i64 (c 23), .int .i64 (c 24), .int .i64 (c 25), .int .i64 (c 26), .int .i64 (c 27), .int .i64 (c 28), .int .i64 (c 29), .int .i64 (c 30)] := by
  simp only [Value.okWide, Try.underlying25] at hv
  obtain ⟨cs, rfl, hsz, _⟩ := hv
  obtain ⟨fuel, hf⟩ := h
  obtain ⟨xs, n, _, _, hl, hxl, hel⟩ := DataW.trod_struct Try.underlying25 hf
  rw [show Try.prog.cellsOf 25 = 31 by kernel_rfl] at hl
  obtain ⟨l⟩ := cs
  simp only [Value.cells] at hf hl hel
  have hx17 : xs.length = 17 := hxl
  have piece : ∀ (o k : Nat), (o, k) ∈ [(0, 3), (3, 3), (6, 1), (7, 1), (8, 3), (11, 3), (14, 3), (17, 3), (20, 1), (21, 3), (24, 1), (25, 1), (26, 1), (27, 1), (28, 1), (29, 1), (30, 1)] → ∀ u ∈ (l.drop o).take k, isI64 u := by
    intro o k hm
    simp only [List.mem_cons, Prod.mk.injEq, List.not_mem_nil, or_false] at hm
    rcases hm with ⟨rfl, rfl⟩ | ⟨rfl, rfl⟩ | ⟨rfl, rfl⟩ | ⟨rfl, rfl⟩ | ⟨rfl, rfl⟩ | ⟨rfl, rfl⟩ | ⟨rfl, rfl⟩ | ⟨rfl, rfl⟩ | ⟨rfl, rfl⟩ | ⟨rfl, rfl⟩ | ⟨rfl, rfl⟩ | ⟨rfl, rfl⟩ | ⟨rfl, rfl⟩ | ⟨rfl, rfl⟩ | ⟨rfl, rfl⟩ | ⟨rfl, rfl⟩ | ⟨rfl, rfl⟩
    · have q := hel 0
      simp only [List.getElem?_toArray, List.getElem?_cons_zero, List.getElem?_cons_succ, Option.some.injEq, forall_eq'] at q
      rw [List.getElem?_eq_getElem (by omega)] at q
      simp only [show Try.prog.cellsOf 23 = 3 by kernel_rfl] at q
      exact piece_row Try.underlying23 Try.underlying2 (by kernel_rfl) (by kernel_rfl) q
    · have q := hel 1
      simp only [List.getElem?_toArray, List.getElem?_cons_zero, List.getElem?_cons_succ, Option.some.injEq, forall_eq'] at q
      rw [List.getElem?_eq_getElem (by omega)] at q
      simp only [show Try.prog.cellsOf 23 = 3 by kernel_rfl] at q
      exact piece_row Try.underlying23 Try.underlying2 (by kernel_rfl) (by kernel_rfl) q
    · have q := hel 2
      simp only [List.getElem?_toArray, List.getElem?_cons_zero, List.getElem?_cons_succ, Option.some.injEq, forall_eq'] at q
      rw [List.getElem?_eq_getElem (by omega)] at q
      simp only [show Try.prog.cellsOf 2 = 1 by kernel_rfl] at q
      exact piece_i64 Try.underlying2 q
    · have q := hel 3
      simp only [List.getElem?_toArray, List.getElem?_cons_zero, List.getElem?_cons_succ, Option.some.injEq, forall_eq'] at q
      rw [List.getElem?_eq_getElem (by omega)] at q
      simp only [show Try.prog.cellsOf 2 = 1 by kernel_rfl] at q
      exact piece_i64 Try.underlying2 q
    · have q := hel 4
      simp only [List.getElem?_toArray, List.getElem?_cons_zero, List.getElem?_cons_succ, Option.some.injEq, forall_eq'] at q
      rw [List.getElem?_eq_getElem (by omega)] at q
      simp only [show Try.prog.cellsOf 23 = 3 by kernel_rfl] at q
      exact piece_row Try.underlying23 Try.underlying2 (by kernel_rfl) (by kernel_rfl) q
    · have q := hel 5
      simp only [List.getElem?_toArray, List.getElem?_cons_zero, List.getElem?_cons_succ, Option.some.injEq, forall_eq'] at q
      rw [List.getElem?_eq_getElem (by omega)] at q
      simp only [show Try.prog.cellsOf 23 = 3 by kernel_rfl] at q
      exact piece_row Try.underlying23 Try.underlying2 (by kernel_rfl) (by kernel_rfl) q
    · have q := hel 6
      simp only [List.getElem?_toArray, List.getElem?_cons_zero, List.getElem?_cons_succ, Option.some.injEq, forall_eq'] at q
      rw [List.getElem?_eq_getElem (by omega)] at q
      simp only [show Try.prog.cellsOf 23 = 3 by kernel_rfl] at q
      exact piece_row Try.underlying23 Try.underlying2 (by kernel_rfl) (by kernel_rfl) q
    · have q := hel 7
      simp only [List.getElem?_toArray, List.getElem?_cons_zero, List.getElem?_cons_succ, Option.some.injEq, forall_eq'] at q
      rw [List.getElem?_eq_getElem (by omega)] at q
      simp only [show Try.prog.cellsOf 23 = 3 by kernel_rfl] at q
      exact piece_row Try.underlying23 Try.underlying2 (by kernel_rfl) (by kernel_rfl) q
    · have q := hel 8
      simp only [List.getElem?_toArray, List.getElem?_cons_zero, List.getElem?_cons_succ, Option.some.injEq, forall_eq'] at q
      rw [List.getElem?_eq_getElem (by omega)] at q
      simp only [show Try.prog.cellsOf 2 = 1 by kernel_rfl] at q
      exact piece_i64 Try.underlying2 q
    · have q := hel 9
      simp only [List.getElem?_toArray, List.getElem?_cons_zero, List.getElem?_cons_succ, Option.some.injEq, forall_eq'] at q
      rw [List.getElem?_eq_getElem (by omega)] at q
      simp only [show Try.prog.cellsOf 23 = 3 by kernel_rfl] at q
      exact piece_row Try.underlying23 Try.underlying2 (by kernel_rfl) (by kernel_rfl) q
    · have q := hel 10
      simp only [List.getElem?_toArray, List.getElem?_cons_zero, List.getElem?_cons_succ, Option.some.injEq, forall_eq'] at q
      rw [List.getElem?_eq_getElem (by omega)] at q
      simp only [show Try.prog.cellsOf 2 = 1 by kernel_rfl] at q
      exact piece_i64 Try.underlying2 q
    · have q := hel 11
      simp only [List.getElem?_toArray, List.getElem?_cons_zero, List.getElem?_cons_succ, Option.some.injEq, forall_eq'] at q
      rw [List.getElem?_eq_getElem (by omega)] at q
      simp only [show Try.prog.cellsOf 2 = 1 by kernel_rfl] at q
      exact piece_i64 Try.underlying2 q
    · have q := hel 12
      simp only [List.getElem?_toArray, List.getElem?_cons_zero, List.getElem?_cons_succ, Option.some.injEq, forall_eq'] at q
      rw [List.getElem?_eq_getElem (by omega)] at q
      simp only [show Try.prog.cellsOf 2 = 1 by kernel_rfl] at q
      exact piece_i64 Try.underlying2 q
    · have q := hel 13
      simp only [List.getElem?_toArray, List.getElem?_cons_zero, List.getElem?_cons_succ, Option.some.injEq, forall_eq'] at q
      rw [List.getElem?_eq_getElem (by omega)] at q
      simp only [show Try.prog.cellsOf 2 = 1 by kernel_rfl] at q
      exact piece_i64 Try.underlying2 q
    · have q := hel 14
      simp only [List.getElem?_toArray, List.getElem?_cons_zero, List.getElem?_cons_succ, Option.some.injEq, forall_eq'] at q
      rw [List.getElem?_eq_getElem (by omega)] at q
      simp only [show Try.prog.cellsOf 2 = 1 by kernel_rfl] at q
      exact piece_i64 Try.underlying2 q
    · have q := hel 15
      simp only [List.getElem?_toArray, List.getElem?_cons_zero, List.getElem?_cons_succ, Option.some.injEq, forall_eq'] at q
      rw [List.getElem?_eq_getElem (by omega)] at q
      simp only [show Try.prog.cellsOf 2 = 1 by kernel_rfl] at q
      exact piece_i64 Try.underlying2 q
    · have q := hel 16
      simp only [List.getElem?_toArray, List.getElem?_cons_zero, List.getElem?_cons_succ, Option.some.injEq, forall_eq'] at q
      rw [List.getElem?_eq_getElem (by omega)] at q
      simp only [show Try.prog.cellsOf 2 = 1 by kernel_rfl] at q
      exact piece_i64 Try.underlying2 q
  have key : ∀ u ∈ l, isI64 u := by
    intro u hu
    obtain ⟨j, hj, rfl⟩ := List.mem_iff_getElem.1 hu
    have hc : ∀ j : Fin 31, ∃ x ∈ [(0, 3), (3, 3), (6, 1), (7, 1), (8, 3), (11, 3), (14, 3), (17, 3), (20, 1), (21, 3), (24, 1), (25, 1), (26, 1), (27, 1), (28, 1), (29, 1), (30, 1)], x.1 ≤ j.1 ∧ j.1 < x.1 + x.2 := by decide
    obtain ⟨⟨o, k⟩, hm, h1, h2⟩ := hc ⟨j, by omega⟩
    exact piece o k hm _ (mem_piece hj h1 h2)
  obtain ⟨zs, hz, rfl⟩ := ints_of key
  have hzl : zs.length = 31 := by simpa using hl
  refine ⟨fun i => zs.getD i 0, fun i => ?_, ?_⟩
  · show I64 (zs.getD i 0)
    rw [List.getD_eq_getElem?_getD]
    cases hi : zs[i]? with
    | none => show I64 0; decide
    | some x => exact hz x (List.mem_of_getElem? hi)
  · have e : zs = (List.range 31).map (fun i => zs.getD i 0) := by
      apply List.ext_getElem (by simp [hzl])
      intro i h1 h2
      simp [List.getD_eq_getElem?_getD, List.getElem?_eq_getElem h1]
    rw [show (Value.agg (List.map (Value.int IntKind.i64) zs).toArray) = Value.agg (List.map (Value.int IntKind.i64) ((List.range 31).map (fun i => zs.getD i 0))).toArray from by rw [← e]]
    rfl
end
end Go.Proofs.Ytpgkchbgjciinaa
