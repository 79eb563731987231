/- Structs and arrays of numbers and Bools compared, by one reckoning. -/
import Derived.Test.YtnmacidlgadmgaaDoorZf
import Derived.Laws.StructEq
import Derived.ChangeKeysEq
namespace Go.Proofs.YtnmacidlgadmgaaDoor
open Go.RowKit
def conB {α : Type} (f : α → Option Bool) : List α → Option Bool
  | [] => some true
  | a :: l => match f a, conB f l with
    | some x, some y => some (x && y)
    | _, _ => none
/-- Whether two values are equal, where nothing but numbers and Bools is compared. -/
def eqB (P : Program) : Nat → TypeId → Value → Value → Option Bool
  | 0, _, _, _ => none
  | d + 1, t, x, y => match P.underlying t with
    | some .bool => match x, y with
      | .bool a, .bool b => some (a == b)
      | _, _ => none
    | some (.int _) => match x, y with
      | .int k a, .int k' b => if k = k' then some (a == b) else none
      | _, _ => none
    | some (.struct fs) => match x, y, P.stoodInHeld t with
      | .agg xs, .agg ys, false => conB (fun f : Field => if f.name ≠ "_" then (match prun P (part f.type xs f.offset), prun P (part f.type ys f.offset) with
        | some a, some b => eqB P d f.type a b
        | _, _ => none) else some true) fs.toList
      | _, _, _ => none
    | some (.array n e) => match x, y, P.info? e with
      | .agg xs, .agg ys, some _ => conB (fun i : Nat => match prun P (part e xs (i * P.cellsOf e)), prun P (part e ys (i * P.cellsOf e)) with
        | some a, some b => eqB P d e a b
        | _, _ => none) (List.range n)
      | _, _, _ => none
    | _ => none
section
variable {P : Program}
theorem conB_cons {α : Type} {f : α → Option Bool} {a : α} {l : List α} {r : Bool} (h : conB f (a :: l) = some r) : ∃ x y, f a = some x ∧ conB f l = some y ∧ r = (x && y) := by
  simp only [conB] at h
  split at h
  · rename_i x y hx hy
    exact ⟨x, y, hx, hy, (Option.some.inj h).symm⟩
  · cases h
theorem eqB_sound : ∀ (d : Nat) (t : TypeId) (x y : Value) (r : Bool) (W : World), eqB P d t x y = some r → (Op.equalIn d t x y).run P W = .ok r W := by
  intro d
  induction d with
  | zero => intro t x y r W h; simp [eqB] at h
  | succ d ih =>
    intro t x y r W h
    simp only [eqB] at h
    split at h
    · rename_i hu
      split at h
      · obtain rfl := Option.some.inj h
        simp [Op.equalIn, run_underlying hu]
      · cases h
    · rename_i k0 hu
      split at h
      · split at h
        · rename_i hk
          subst hk
          obtain rfl := Option.some.inj h
          simp [Op.equalIn, run_underlying hu]
        · cases h
      · cases h
    · rename_i fs hu
      split at h
      · rename_i xs ys hst
        have hfs : P.fieldsOf t = fs := by unfold Program.fieldsOf; rw [hu]
        rw [run_equalIn_struct W d t xs ys (by rw [hfs]; exact hu) hst, hfs]
        generalize fs.toList = l at h
        clear hfs hu
        induction l generalizing r with
        | nil => simp only [conB, Option.some.injEq] at h; rw [← h]; rfl
        | cons f l ihl =>
          obtain ⟨u, v, h1, h2, rfl⟩ := conB_cons h
          have hl := ihl v h2
          simp only [Op.eqFields]
          split at h1
          · rename_i hn
            rw [if_pos hn]
            split at h1
            · rename_i a b ha hb
              rw [Sem.run_bind, prun_sound _ ha]
              simp only [Result.andThen_ok]
              rw [Sem.run_bind, prun_sound _ hb]
              simp only [Result.andThen_ok]
              rw [Sem.run_bind, ih _ _ _ _ _ h1]
              simp only [Result.andThen_ok]
              cases u
              · rfl
              · simp only [Bool.not_true, Bool.false_eq_true, if_false, Bool.true_and]; exact hl
            · cases h1
          · rename_i hn
            rw [if_neg hn]
            obtain rfl := Option.some.inj h1
            simpa using hl
      · cases h
    · rename_i n e hu
      split at h
      · rename_i xs ys i hi
        rw [run_equalIn_array W d xs ys hu hi]
        generalize List.range n = l at h
        induction l generalizing r with
        | nil => simp only [conB, Option.some.injEq] at h; rw [← h]; rfl
        | cons j l ihl =>
          obtain ⟨u, v, h1, h2, rfl⟩ := conB_cons h
          have hl := ihl v h2
          simp only [Op.eqItems]
          split at h1
          · rename_i a b ha hb
            rw [Sem.run_bind, prun_sound _ ha]
            simp only [Result.andThen_ok]
            rw [Sem.run_bind, prun_sound _ hb]
            simp only [Result.andThen_ok]
            rw [Sem.run_bind, ih _ _ _ _ _ h1]
            simp only [Result.andThen_ok]
            cases u
            · rfl
            · simp only [Bool.not_true, Bool.false_eq_true, if_false, Bool.true_and]; exact hl
          · cases h1
      · cases h
    · cases h
theorem eqv_of {t : TypeId} {x y : Value} {b : Bool} (h : eqB P 10000 t x y = some b) : EqV P t x y b := fun W => eqB_sound _ _ _ _ _ W h
theorem eqv_true {t : TypeId} {x y : Value} {b : Bool} (h : eqB P 10000 t x y = some b) (hb : b = true) : EqV P t x y true := hb ▸ eqv_of h
end
end Go.Proofs.YtnmacidlgadmgaaDoor
