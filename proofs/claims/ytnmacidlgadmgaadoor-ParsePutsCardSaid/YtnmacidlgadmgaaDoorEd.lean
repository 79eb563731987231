/- The walk as one reckoning, fourth part: small words for the conditions' proofs. -/
import Derived.Test.YtnmacidlgadmgaaDoorEa
import Derived.Test.YtnmacidlgadmgaaDoorSe
import Derived.Test.YtnmacidlgadmgaaDoorKr
namespace Go.Proofs.YtnmacidlgadmgaaDoor
open Go.RowKit
theorem Ex.nil {w : World} : Ex w [] := fun x hx => by cases hx
theorem Ex.cons {w : World} {b : Nat} {cs : List Value} {es : Blks} (h : b < w.heap.size ∧ ∀ i v, cs[i]? = some v → w.cell? ⟨b, i, none⟩ = some v) (k : Ex w es) : Ex w ((b, cs) :: es) := by
  intro x hx
  rcases List.mem_cons.1 hx with rfl | hx
  · exact h
  · exact k x hx
section
variable {P : Program} {w0 : World} {bs : Blks} {gs : Bigs} {g : FuncId} {args : Array Value} {v : Value} {z : Int}
theorem CallV.of (h : ∀ W, St w0 W bs gs → Calls P g args W fun e w' => e = .returned v ∧ W = w') : CallV P w0 bs gs g args v :=
  fun W hS => (h W hS).mono fun _ _ ⟨he, hw⟩ => ⟨he, hw ▸ Below.refl _ _⟩
theorem CallV.be (h : ∀ W, St w0 W bs gs → Calls P g args W fun e w' => e = .returned v ∧ Below W.heap.size W w') : CallV P w0 bs gs g args v := h
theorem cells_of {w : World} {b : Nat} : ∀ (cs : List Value) (k : Nat), cellsAt w b k cs → ∀ i v, cs[i]? = some v → w.cell? ⟨b, k + i, none⟩ = some v
  | [], _, _, i, v, h => by simp at h
  | c :: cs, k, hc, 0, v, h => by
    obtain rfl : c = v := by simpa using h
    exact hc.1
  | c :: cs, k, hc, i + 1, v, h => by
    have := cells_of cs (k + 1) hc.2 i v (by simpa using h)
    rwa [show k + 1 + i = k + (i + 1) from by omega] at this
/-- A variable that was there: its cells, one by one. -/
theorem exOf {w : World} {b : Nat} {c : Value} {cs : List Value} (h : cellsAt w b 0 (c :: cs)) : b < w.heap.size ∧ ∀ i v, (c :: cs)[i]? = some v → w.cell? ⟨b, i, none⟩ = some v :=
  ⟨World.block_lt_of_cell? w ⟨b, 0, none⟩ h.1, fun i v hv => by have := cells_of _ 0 h i v hv; rwa [Nat.zero_add] at this⟩
theorem maxI (a b : Int) : (if b > a then b else a) = max a b := by rw [Int.max_def]; split <;> split <;> omega
theorem minI (a b : Int) : (if b < a then b else a) = min a b := by rw [Int.min_def]; split <;> split <;> omega
def v3 (a b c : Int) : Nat → Int
  | 0 => a
  | 1 => b
  | _ => c
def v6 (a b c d e f : Int) : Nat → Int
  | 0 => a
  | 1 => b
  | 2 => c
  | 3 => d
  | 4 => e
  | _ => f
theorem v3_all {p : Int → Prop} {a b c : Int} (ha : p a) (hb : p b) (hc : p c) : ∀ i, p (v3 a b c i)
  | 0 => ha
  | 1 => hb
  | _ + 2 => hc
theorem v6_all {p : Int → Prop} {a b c d e f : Int} (ha : p a) (hb : p b) (hc : p c) (hd : p d) (he : p e) (hf : p f) : ∀ i, p (v6 a b c d e f i)
  | 0 => ha
  | 1 => hb
  | 2 => hc
  | 3 => hd
  | 4 => he
  | _ + 5 => hf
theorem shr_eq (x : Int) (n : Nat) : Int.fdiv x (2 ^ n) = x / 2 ^ n := Int.fdiv_eq_ediv_of_nonneg _ (Int.le_of_lt (Int.pow_pos (by decide)))
theorem cell_bl {w W : World} {b o : Nat} {v : Value} (hb : Below w.heap.size w W) (h : w.cell? ⟨b, o, none⟩ = some v) : W.cell? ⟨b, o, none⟩ = some v :=
  ((bcell hb).1 _ _ (World.block_lt_of_cell? w _ h)).trans h
theorem wrapI {n : Int} (h : -9223372036854775808 ≤ n ∧ n ≤ 9223372036854775807) : IntKind.i64.wrap n = n := IntWalk.i64_in _ h
end
end Go.Proofs.YtnmacidlgadmgaaDoor
