/- Opening of plain arguments: arrays of numbers of 64 bits. -/
import Derived.Test.YtlinfennhfphiaaDoorLa
namespace Go.Proofs.YtlinfennhfphiaaDoor
open Go.RowKit Go.WideShapes Go.ChangeShapes Go.WideElems
set_option maxRecDepth 100000

theorem ints_of {l : List Value} : (∀ v ∈ l, ∃ x : Int, I64 x ∧ v = .int .i64 x) → ∃ xs : List Int, (∀ x ∈ xs, I64 x) ∧ l = xs.map (Value.int .i64) := by
  intro h
  induction l with
  | nil => exact ⟨[], by simp, rfl⟩
  | cons v r ih =>
    obtain ⟨x, hx, rfl⟩ := h v (by simp)
    obtain ⟨xs, h1, rfl⟩ := ih fun u hu => h u (by simp [hu])
    exact ⟨x :: xs, fun y hy => by rcases List.mem_cons.1 hy with rfl | hy; exact hx; exact h1 y hy, rfl⟩
section
variable {H : Type} {enc : TypeId × Value → H} {P : Program} {w : World} {base : Nat} {spare : Nat → Bool} {held : Bool} {r : Reach} {b0 : Nat} {v : Value} {d : DataW H} {p : List MemPlace}
theorem open_ints_arr {n : Nat} {t e : TypeId} (ht : P.underlying t = some (.array n e)) (he : P.underlying e = some (.int .i64)) (hc : P.cellsOf e = 1) (hct : P.cellsOf t = n)
    (hv : Value.okWide P w r b0 t v) (h : DataW.Trod enc P w base spare held t v d p) : ∃ xs : List Int, xs.length = n ∧ (∀ x ∈ xs, I64 x) ∧ v = .agg (xs.map (Value.int .i64)).toArray := by
  simp only [Value.okWide, ht] at hv
  obtain ⟨cs, rfl, hsz, _⟩ := hv
  obtain ⟨fuel, hf⟩ := h
  obtain ⟨ys, m, _, _, hl, hyl, hel⟩ := DataW.trod_array ht hf
  obtain ⟨l⟩ := cs
  simp only [Value.cells] at hf hl hel
  have hln : l.length = n := by rw [← hct]; simpa using hl
  have key : ∀ v ∈ l, ∃ x : Int, I64 x ∧ v = .int .i64 x := by
    intro v hv
    obtain ⟨i, hi, rfl⟩ := List.mem_iff_getElem.1 hv
    have k := hel i (by omega)
    rw [hc, Nat.mul_one] at k
    have e1 : (l.drop i).take 1 = [l[i]] := by rw [List.drop_eq_getElem_cons hi]; rfl
    rw [show (({ toList := l } : Array Value).toList.drop i).take 1 = [l[i]] from e1] at k
    have hy : ys[i]? = some (ys[i]'(by omega)) := List.getElem?_eq_getElem (by omega)
    rw [hy] at k
    obtain ⟨x, ex, _, wx⟩ := DataW.trod_int he k
    exact ⟨x, wf_i64 wx, by simpa using ex⟩
  obtain ⟨xs, h1, rfl⟩ := ints_of key
  exact ⟨xs, by simpa using hln, h1, rfl⟩
end
section
variable {H : Type} {enc : TypeId × Value → H} {w : World} {base : Nat} {spare : Nat → Bool} {held : Bool} {r : Reach} {b0 : Nat} {v : Value} {d : DataW H} {p : List MemPlace}
theorem open_vec (hv : Value.okWide Tryd.prog w r b0 25 v) (h : DataW.Trod enc Tryd.prog w base spare held 25 v d p) : ∃ x y z : Int, I64 x ∧ I64 y ∧ I64 z ∧ v = .agg #[.int .i64 x, .int .i64 y, .int .i64 z] := by
  obtain ⟨xs, hl, hx, rfl⟩ := open_ints_arr Tryd.underlying25 Tryd.underlying2 (by kernel_rfl) (by kernel_rfl) hv h
  match xs, hl, hx with
  | [x, y, z], _, hx => exact ⟨x, y, z, hx x (by simp), hx y (by simp), hx z (by simp), rfl⟩
theorem open_sym (hv : Value.okWide Tryd.prog w r b0 23 v) (h : DataW.Trod enc Tryd.prog w base spare held 23 v d p) : ∃ m : List Int, m.length = 6 ∧ (∀ x ∈ m, I64 x) ∧ v = .agg (m.map (Value.int .i64)).toArray := 
  open_ints_arr Tryd.underlying23 Tryd.underlying2 (by kernel_rfl) (by kernel_rfl) hv h
end
end Go.Proofs.YtlinfennhfphiaaDoor
