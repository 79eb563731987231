/- Two arrays of numbers of 64 bits, compared; an array indexed by a numeral. -/
import Derived.Test.YtnmacidlgadmgaaDoorRows
import Derived.Test.YtnmacidlgadmgaaDoorWk
import Derived.WalkKit
import Derived.ChangeKeysEq
namespace Go.Proofs.YtnmacidlgadmgaaDoor
open Go.RowKit

theorem run_ints {P : Program} {w : World} {e : TypeId} (hp : P.plainKey e = true) (hu : P.underlying e = some (.int .i64)) (d : Nat) {xs ys : Array Value} {ks : List Nat} {us vs : List Int} :
    ks.map (fun i => xs[i]?) = us.map (fun a => some (Value.int .i64 a)) → ks.map (fun i => ys[i]?) = vs.map (fun a => some (Value.int .i64 a)) →
    (Op.eqItems (d + 1) e 1 xs ys ks).run P w = .ok (us == vs) w := by
  intro ha hb
  induction ks generalizing us vs with
  | nil =>
    obtain rfl : us = [] := by cases us <;> simp_all
    obtain rfl : vs = [] := by cases vs <;> simp_all
    simp [Op.eqItems]
  | cons i ks ih =>
    match us, vs, ha, hb with
    | a :: us, b :: vs, ha, hb =>
      simp only [List.map_cons, List.cons.injEq] at ha hb
      simp only [Op.eqItems, Sem.run_bind, Nat.mul_one]
      rw [run_part_plain w hp ha.1]
      simp only [Result.andThen_ok]
      rw [run_part_plain w hp hb.1]
      simp only [Result.andThen_ok]
      rw [run_equalIn_int w d e .i64 .i64 a b hu]
      simp only [Result.andThen_ok]
      by_cases h : a = b
      · subst h
        simp only [beq_self_eq_true, Bool.not_true, Bool.false_eq_true, if_false]
        rw [ih ha.2 hb.2]
        simp
      · have : (a == b) = false := by simpa using h
        simp [this]
theorem run_eq_ints {P : Program} (w : World) {t e : TypeId} {n : Nat} (hu : P.underlying t = some (.array n e)) (hi' : (P.info? e).isSome = true) (hp : P.plainKey e = true) (he : P.underlying e = some (.int .i64)) (hc : P.cellsOf e = 1) (us vs : List Int) (ha : us.length = n) (hb : vs.length = n) :
    (Op.equalIn 10000 t (.agg (us.map (Value.int .i64)).toArray) (.agg (vs.map (Value.int .i64)).toArray)).run P w = .ok (us == vs) w := by
  obtain ⟨i, hi⟩ := Option.isSome_iff_exists.1 hi'
  show (Op.equalIn (9999 + 1) t _ _).run P w = _
  rw [run_equalIn_array w 9999 _ _ hu hi, hc]
  exact run_ints hp he 9998 (by rw [← ha]; apply List.ext_getElem?; intro k; simp; by_cases hk : k < us.length <;> simp [hk]) (by rw [← hb]; apply List.ext_getElem?; intro k; simp; by_cases hk : k < vs.length <;> simp [hk])
theorem eqVec (a0 a1 a2 b0 b1 b2 : Int) (w : World) : (Op.equalIn 10000 23 (.agg #[.int .i64 a0, .int .i64 a1, .int .i64 a2]) (.agg #[.int .i64 b0, .int .i64 b1, .int .i64 b2])).run Tryd.prog w = .ok ([a0, a1, a2] == [b0, b1, b2]) w :=
  run_eq_ints w Tryd.underlying23 (by kernel_rfl) (by kernel_rfl) Tryd.underlying2 (by kernel_rfl) [a0, a1, a2] [b0, b1, b2] rfl rfl
theorem ixVec_0 (a0 a1 a2 : Value) (w : World) : (Instr.index 23 (.agg #[a0, a1, a2]) (.int .i64 0)).run Tryd.prog w = .ok a0 w := by kernel_rfl
theorem ixVec_1 (a0 a1 a2 : Value) (w : World) : (Instr.index 23 (.agg #[a0, a1, a2]) (.int .i64 1)).run Tryd.prog w = .ok a1 w := by kernel_rfl
theorem ixVec_2 (a0 a1 a2 : Value) (w : World) : (Instr.index 23 (.agg #[a0, a1, a2]) (.int .i64 2)).run Tryd.prog w = .ok a2 w := by kernel_rfl
theorem eqSym : True := trivial
theorem ixSym_0 : True := trivial
theorem ixSym_1 : True := trivial
theorem ixSym_2 : True := trivial
theorem ixSym_3 : True := trivial
theorem ixSym_4 : True := trivial
theorem ixSym_5 : True := trivial
end Go.Proofs.YtnmacidlgadmgaaDoor
