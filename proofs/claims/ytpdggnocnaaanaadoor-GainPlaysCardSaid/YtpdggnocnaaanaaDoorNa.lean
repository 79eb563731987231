/- Walks of layer 11 (gain) and of its reference, by plans; the laws GainMild and GainLess. -/
import Derived.Test.YtpdggnocnaaanaaDoorFg
import Derived.Test.YtpdggnocnaaanaaDoorVc
import Derived.Test.YtpdggnocnaaanaaDoorSg
import Derived.Test.YtpdggnocnaaanaaDoorSc
namespace Go.Proofs.YtpdggnocnaaanaaDoor
open Go.RowKit
set_option linter.unusedSimpArgs false
set_option linter.unusedVariables false
def bestB (p : Nat → Int) (s : Int) : Bool := fits6 p && (fitB s && decide (1 ≤ s))
def bestE (p : Nat → Int) (s : Int) : Int := if bestB p s then eE (toE (divZ (p 0) s)) (toE (divZ (p 1) s)) (toE (divZ (p 2) s)) else 1
def bestV (p : Nat → Int) (s : Int) (i : Nat) : Int := if bestB p s then eV (toE (divZ (p 0) s)) (toE (divZ (p 1) s)) (toE (divZ (p 2) s)) (toV (divZ (p i) s)) else 0
def mildB (k : Nat → Int) : Bool := decide (k 0 ≥ 0) && decide (k 0 ≤ 1099511627776)
theorem best_no {p : Nat → Int} {s : Int} (h : bestB p s = false) : bestE p s = 1 ∧ ∀ i, bestV p s i = 0 := ⟨by unfold bestE; rw [h]; rfl, fun i => by unfold bestV; rw [h]; rfl⟩
theorem best_yes {p : Nat → Int} {s : Int} (h : bestB p s = true) : bestE p s = eE (toE (divZ (p 0) s)) (toE (divZ (p 1) s)) (toE (divZ (p 2) s)) ∧ ∀ i, bestV p s i = eV (toE (divZ (p 0) s)) (toE (divZ (p 1) s)) (toE (divZ (p 2) s)) (toV (divZ (p i) s)) :=
  ⟨by unfold bestE; rw [h]; rfl, fun i => by unfold bestV; rw [h]; rfl⟩
theorem gadd_zeros {p : Nat → Int} : addE p (v6 0 0 0 0 0 0) = if fits6 p then 0 else 1 := by
  have h0 : fits6 (v6 0 0 0 0 0 0) = true := by decide
  unfold addE
  rw [h0, Bool.and_true]
  cases h : fits6 p
  · rfl
  · have e : fits6 (fun j => p j + v6 0 0 0 0 0 0 j) = true := by
      rw [← h]; unfold fits6; simp only [allB, v6, Int.add_zero]
    rw [e]; rfl
theorem gadd_ok {p : Nat → Int} (h : addE p (v6 0 0 0 0 0 0) = 0) : fits6 p = true := by
  rw [gadd_zeros] at h
  cases q : fits6 p
  · rw [q] at h; cases h
  · rfl
theorem gadd_no {p : Nat → Int} (h : ¬ addE p (v6 0 0 0 0 0 0) = 0) : fits6 p = false := by
  rw [gadd_zeros] at h
  cases q : fits6 p
  · rfl
  · rw [q] at h; exact absurd rfl h
theorem fits6_3 {p : Nat → Int} (h : fits6 p = true) : fitB (p 0) = true ∧ fitB (p 1) = true ∧ fitB (p 2) = true := by
  unfold fits6 at h; simp only [allB, Bool.true_and, Bool.and_eq_true] at h; simp only [h, and_self]
set_option maxRecDepth 1000000 in
set_option maxHeartbeats 8000000 in
theorem gain_Best_plan (p : Nat → Int) (s : Int) (w : World) (R : Ending → World → Prop) (hG : St w w [] []) (hE : Ex w [])
    (h : ∀ r1 : Nat, ∀ r2 : Nat, r1 = r1 ∧ CallV Tryd.prog w [(r1, [.int .i64 (p 0), .int .i64 (p 1), .int .i64 (p 2), .int .i64 (p 3), .int .i64 (p 4), .int .i64 (p 5)]), (r2, [.int .i64 0, .int .i64 0, .int .i64 0])] [] 55 #[.agg #[.int .i64 (p 0), .int .i64 (p 1), .int .i64 (p 2), .int .i64 (p 3), .int .i64 (p 4), .int .i64 (p 5)], .agg #[.int .i64 0, .int .i64 0, .int .i64 0, .int .i64 0, .int .i64 0, .int .i64 0]] (.tuple #[.agg #[.int .i64 (addV p (v6 0 0 0 0 0 0) 0), .int .i64 (addV p (v6 0 0 0 0 0 0) 1), .int .i64 (addV p (v6 0 0 0 0 0 0) 2), .int .i64 (addV p (v6 0 0 0 0 0 0) 3), .int .i64 (addV p (v6 0 0 0 0 0 0) 4), .int .i64 (addV p (v6 0 0 0 0 0 0) 5)], .int .i64 (addE p (v6 0 0 0 0 0 0))]) ∧ (∀ r3 : Nat, (r3 = r3 ∧ (r3 = r3 ∧ (r3 = r3 ∧ (r3 = r3 ∧ (r3 = r3 ∧ (r3 = r3 ∧ (True))))))) ∧ ((((addE p (v6 0 0 0 0 0 0)) != 0) = true → (r2 = r2 ∧ (r2 = r2 ∧ (r2 = r2 ∧ (True)))) ∧ (r2 = r2 ∧ (True)) ∧ (LeafV R w [(r1, [.int .i64 (p 0), .int .i64 (p 1), .int .i64 (p 2), .int .i64 (p 3), .int .i64 (p 4), .int .i64 (p 5)]), (r2, [.int .i64 0, .int .i64 0, .int .i64 0]), (r3, [.int .i64 (addV p (v6 0 0 0 0 0 0) 0), .int .i64 (addV p (v6 0 0 0 0 0 0) 1), .int .i64 (addV p (v6 0 0 0 0 0 0) 2), .int .i64 (addV p (v6 0 0 0 0 0 0) 3), .int .i64 (addV p (v6 0 0 0 0 0 0) 4), .int .i64 (addV p (v6 0 0 0 0 0 0) 5)])] [] (.tuple #[.agg #[.int .i64 0, .int .i64 0, .int .i64 0], .int .i64 1]))) ∧ (((addE p (v6 0 0 0 0 0 0)) != 0) = false → CallV Tryd.prog w [(r1, [.int .i64 (p 0), .int .i64 (p 1), .int .i64 (p 2), .int .i64 (p 3), .int .i64 (p 4), .int .i64 (p 5)]), (r2, [.int .i64 0, .int .i64 0, .int .i64 0]), (r3, [.int .i64 (addV p (v6 0 0 0 0 0 0) 0), .int .i64 (addV p (v6 0 0 0 0 0 0) 1), .int .i64 (addV p (v6 0 0 0 0 0 0) 2), .int .i64 (addV p (v6 0 0 0 0 0 0) 3), .int .i64 (addV p (v6 0 0 0 0 0 0) 4), .int .i64 (addV p (v6 0 0 0 0 0 0) 5)])] [] 39 #[.int .i64 s] (.bool (fitB s)) ∧ (((!(fitB s)) = true → (r2 = r2 ∧ (r2 = r2 ∧ (r2 = r2 ∧ (True)))) ∧ (r2 = r2 ∧ (True)) ∧ (LeafV R w [(r1, [.int .i64 (p 0), .int .i64 (p 1), .int .i64 (p 2), .int .i64 (p 3), .int .i64 (p 4), .int .i64 (p 5)]), (r2, [.int .i64 0, .int .i64 0, .int .i64 0]), (r3, [.int .i64 (addV p (v6 0 0 0 0 0 0) 0), .int .i64 (addV p (v6 0 0 0 0 0 0) 1), .int .i64 (addV p (v6 0 0 0 0 0 0) 2), .int .i64 (addV p (v6 0 0 0 0 0 0) 3), .int .i64 (addV p (v6 0 0 0 0 0 0) 4), .int .i64 (addV p (v6 0 0 0 0 0 0) 5)])] [] (.tuple #[.agg #[.int .i64 0, .int .i64 0, .int .i64 0], .int .i64 1]))) ∧ ((!(fitB s)) = false → ((decide (s < 1)) = true → (r2 = r2 ∧ (r2 = r2 ∧ (r2 = r2 ∧ (True)))) ∧ (r2 = r2 ∧ (True)) ∧ (LeafV R w [(r1, [.int .i64 (p 0), .int .i64 (p 1), .int .i64 (p 2), .int .i64 (p 3), .int .i64 (p 4), .int .i64 (p 5)]), (r2, [.int .i64 0, .int .i64 0, .int .i64 0]), (r3, [.int .i64 (addV p (v6 0 0 0 0 0 0) 0), .int .i64 (addV p (v6 0 0 0 0 0 0) 1), .int .i64 (addV p (v6 0 0 0 0 0 0) 2), .int .i64 (addV p (v6 0 0 0 0 0 0) 3), .int .i64 (addV p (v6 0 0 0 0 0 0) 4), .int .i64 (addV p (v6 0 0 0 0 0 0) 5)])] [] (.tuple #[.agg #[.int .i64 0, .int .i64 0, .int .i64 0], .int .i64 1]))) ∧ ((decide (s < 1)) = false → ∀ r10 : Nat, r1 = r1 ∧ CallV Tryd.prog w [(r1, [.int .i64 (p 0), .int .i64 (p 1), .int .i64 (p 2), .int .i64 (p 3), .int .i64 (p 4), .int .i64 (p 5)]), (r2, [.int .i64 0, .int .i64 0, .int .i64 0]), (r3, [.int .i64 (addV p (v6 0 0 0 0 0 0) 0), .int .i64 (addV p (v6 0 0 0 0 0 0) 1), .int .i64 (addV p (v6 0 0 0 0 0 0) 2), .int .i64 (addV p (v6 0 0 0 0 0 0) 3), .int .i64 (addV p (v6 0 0 0 0 0 0) 4), .int .i64 (addV p (v6 0 0 0 0 0 0) 5)]), (r10, [.int .i64 0, .int .i64 0, .int .i64 0])] [] 56 #[.int .i64 (p 0), .int .i64 s] (.tuple #[.int .i64 (divV (p 0) s (divZ (p 0) s)), .int .i64 (divE (p 0) s (divZ (p 0) s))]) ∧ (r10 = r10 ∧ (True)) ∧ ((((divE (p 0) s (divZ (p 0) s)) != 0) = true → (r2 = r2 ∧ (r2 = r2 ∧ (r2 = r2 ∧ (True)))) ∧ (r2 = r2 ∧ (True)) ∧ (LeafV R w [(r1, [.int .i64 (p 0), .int .i64 (p 1), .int .i64 (p 2), .int .i64 (p 3), .int .i64 (p 4), .int .i64 (p 5)]), (r2, [.int .i64 0, .int .i64 0, .int .i64 0]), (r3, [.int .i64 (addV p (v6 0 0 0 0 0 0) 0), .int .i64 (addV p (v6 0 0 0 0 0 0) 1), .int .i64 (addV p (v6 0 0 0 0 0 0) 2), .int .i64 (addV p (v6 0 0 0 0 0 0) 3), .int .i64 (addV p (v6 0 0 0 0 0 0) 4), .int .i64 (addV p (v6 0 0 0 0 0 0) 5)]), (r10, [.int .i64 (divV (p 0) s (divZ (p 0) s)), .int .i64 0, .int .i64 0])] [] (.tuple #[.agg #[.int .i64 0, .int .i64 0, .int .i64 0], .int .i64 (divE (p 0) s (divZ (p 0) s))]))) ∧ (((divE (p 0) s (divZ (p 0) s)) != 0) = false → r1 = r1 ∧ CallV Tryd.prog w [(r1, [.int .i64 (p 0), .int .i64 (p 1), .int .i64 (p 2), .int .i64 (p 3), .int .i64 (p 4), .int .i64 (p 5)]), (r2, [.int .i64 0, .int .i64 0, .int .i64 0]), (r3, [.int .i64 (addV p (v6 0 0 0 0 0 0) 0), .int .i64 (addV p (v6 0 0 0 0 0 0) 1), .int .i64 (addV p (v6 0 0 0 0 0 0) 2), .int .i64 (addV p (v6 0 0 0 0 0 0) 3), .int .i64 (addV p (v6 0 0 0 0 0 0) 4), .int .i64 (addV p (v6 0 0 0 0 0 0) 5)]), (r10, [.int .i64 (divV (p 0) s (divZ (p 0) s)), .int .i64 0, .int .i64 0])] [] 56 #[.int .i64 (p 1), .int .i64 s] (.tuple #[.int .i64 (divV (p 1) s (divZ (p 1) s)), .int .i64 (divE (p 1) s (divZ (p 1) s))]) ∧ (r10 = r10 ∧ (True)) ∧ ((((divE (p 1) s (divZ (p 1) s)) != 0) = true → (r2 = r2 ∧ (r2 = r2 ∧ (r2 = r2 ∧ (True)))) ∧ (r2 = r2 ∧ (True)) ∧ (LeafV R w [(r1, [.int .i64 (p 0), .int .i64 (p 1), .int .i64 (p 2), .int .i64 (p 3), .int .i64 (p 4), .int .i64 (p 5)]), (r2, [.int .i64 0, .int .i64 0, .int .i64 0]), (r3, [.int .i64 (addV p (v6 0 0 0 0 0 0) 0), .int .i64 (addV p (v6 0 0 0 0 0 0) 1), .int .i64 (addV p (v6 0 0 0 0 0 0) 2), .int .i64 (addV p (v6 0 0 0 0 0 0) 3), .int .i64 (addV p (v6 0 0 0 0 0 0) 4), .int .i64 (addV p (v6 0 0 0 0 0 0) 5)]), (r10, [.int .i64 (divV (p 0) s (divZ (p 0) s)), .int .i64 (divV (p 1) s (divZ (p 1) s)), .int .i64 0])] [] (.tuple #[.agg #[.int .i64 0, .int .i64 0, .int .i64 0], .int .i64 (divE (p 1) s (divZ (p 1) s))]))) ∧ (((divE (p 1) s (divZ (p 1) s)) != 0) = false → r1 = r1 ∧ CallV Tryd.prog w [(r1, [.int .i64 (p 0), .int .i64 (p 1), .int .i64 (p 2), .int .i64 (p 3), .int .i64 (p 4), .int .i64 (p 5)]), (r2, [.int .i64 0, .int .i64 0, .int .i64 0]), (r3, [.int .i64 (addV p (v6 0 0 0 0 0 0) 0), .int .i64 (addV p (v6 0 0 0 0 0 0) 1), .int .i64 (addV p (v6 0 0 0 0 0 0) 2), .int .i64 (addV p (v6 0 0 0 0 0 0) 3), .int .i64 (addV p (v6 0 0 0 0 0 0) 4), .int .i64 (addV p (v6 0 0 0 0 0 0) 5)]), (r10, [.int .i64 (divV (p 0) s (divZ (p 0) s)), .int .i64 (divV (p 1) s (divZ (p 1) s)), .int .i64 0])] [] 56 #[.int .i64 (p 2), .int .i64 s] (.tuple #[.int .i64 (divV (p 2) s (divZ (p 2) s)), .int .i64 (divE (p 2) s (divZ (p 2) s))]) ∧ (r10 = r10 ∧ (True)) ∧ ((((divE (p 2) s (divZ (p 2) s)) != 0) = true → (r2 = r2 ∧ (r2 = r2 ∧ (r2 = r2 ∧ (True)))) ∧ (r2 = r2 ∧ (True)) ∧ (LeafV R w [(r1, [.int .i64 (p 0), .int .i64 (p 1), .int .i64 (p 2), .int .i64 (p 3), .int .i64 (p 4), .int .i64 (p 5)]), (r2, [.int .i64 0, .int .i64 0, .int .i64 0]), (r3, [.int .i64 (addV p (v6 0 0 0 0 0 0) 0), .int .i64 (addV p (v6 0 0 0 0 0 0) 1), .int .i64 (addV p (v6 0 0 0 0 0 0) 2), .int .i64 (addV p (v6 0 0 0 0 0 0) 3), .int .i64 (addV p (v6 0 0 0 0 0 0) 4), .int .i64 (addV p (v6 0 0 0 0 0 0) 5)]), (r10, [.int .i64 (divV (p 0) s (divZ (p 0) s)), .int .i64 (divV (p 1) s (divZ (p 1) s)), .int .i64 (divV (p 2) s (divZ (p 2) s))])] [] (.tuple #[.agg #[.int .i64 0, .int .i64 0, .int .i64 0], .int .i64 (divE (p 2) s (divZ (p 2) s))]))) ∧ (((divE (p 2) s (divZ (p 2) s)) != 0) = false → r10 = r10 ∧ (r2 = r2 ∧ (r2 = r2 ∧ (r2 = r2 ∧ (True)))) ∧ (r2 = r2 ∧ (True)) ∧ (LeafV R w [(r1, [.int .i64 (p 0), .int .i64 (p 1), .int .i64 (p 2), .int .i64 (p 3), .int .i64 (p 4), .int .i64 (p 5)]), (r2, [.int .i64 (divV (p 0) s (divZ (p 0) s)), .int .i64 (divV (p 1) s (divZ (p 1) s)), .int .i64 (divV (p 2) s (divZ (p 2) s))]), (r3, [.int .i64 (addV p (v6 0 0 0 0 0 0) 0), .int .i64 (addV p (v6 0 0 0 0 0 0) 1), .int .i64 (addV p (v6 0 0 0 0 0 0) 2), .int .i64 (addV p (v6 0 0 0 0 0 0) 3), .int .i64 (addV p (v6 0 0 0 0 0 0) 4), .int .i64 (addV p (v6 0 0 0 0 0 0) 5)]), (r10, [.int .i64 (divV (p 0) s (divZ (p 0) s)), .int .i64 (divV (p 1) s (divZ (p 1) s)), .int .i64 (divV (p 2) s (divZ (p 2) s))])] [] (.tuple #[.agg #[.int .i64 (divV (p 0) s (divZ (p 0) s)), .int .i64 (divV (p 1) s (divZ (p 1) s)), .int .i64 (divV (p 2) s (divZ (p 2) s))], .int .i64 0]))))))))))))))) : Calls Tryd.prog 19 #[.agg #[.int .i64 (p 0), .int .i64 (p 1), .int .i64 (p 2), .int .i64 (p 3), .int .i64 (p 4), .int .i64 (p 5)], .int .i64 s] w R :=
  calls_of_plan (f := 19) (es := []) (c := Tryd.f19.body.getD .skip) (tmps := #[.agg #[.int .i64 (p 0), .int .i64 (p 1), .int .i64 (p 2), .int .i64 (p 3), .int .i64 (p 4), .int .i64 (p 5)], .int .i64 s, undef, undef, undef, undef, undef, undef, undef, undef, undef, undef, undef, undef, undef, undef, undef, undef, undef, undef, undef, undef, undef, undef, undef, undef, undef, undef, undef, undef, undef, undef, undef, undef, undef, undef, undef, undef, undef, undef, undef, undef, undef, undef, undef, undef, undef])
    (.s [.c, .c] (.new (fun r1 => .new (fun r2 => .s [.v, .c, .c, .c, .own 0, .v, .call (.tuple #[.agg #[.int .i64 (addV p (v6 0 0 0 0 0 0) 0), .int .i64 (addV p (v6 0 0 0 0 0 0) 1), .int .i64 (addV p (v6 0 0 0 0 0 0) 2), .int .i64 (addV p (v6 0 0 0 0 0 0) 3), .int .i64 (addV p (v6 0 0 0 0 0 0) 4), .int .i64 (addV p (v6 0 0 0 0 0 0) 5)], .int .i64 (addE p (v6 0 0 0 0 0 0))]), .v, .v, .v] (.new (fun r3 => .s [.put 2, .v, .c, .c, .c, .c, .v, .v, .v] (.split 18 (.s [.u, .u, .u, .v, .v, .u, .u, .v, .c, .c, .c, .c, .v, .put 1, .v, .c] (.ret [1])) (.s [.v, .call (.bool (fitB s)), .v, .v, .v] (.split 23 (.s [.u, .u, .v, .c, .c, .c, .c, .v, .put 1, .v, .c] (.ret [1])) (.s [.v, .v, .v, .c] (.split 26 (.s [.c, .c, .c, .v, .put 1, .v, .c] (.ret [1])) (.s [.c, .c, .c, .c] (.new (fun r10 => .s [.c, .c, .c, .c, .v, .c, .c, .c, .c, .c, .v, .c, .c, .c, .c, .c, .c, .c, .c, .v, .v, .c, .c, .c, .v, .v, .v, .own 0, .v, .call (.tuple #[.int .i64 (divV (p 0) s (divZ (p 0) s)), .int .i64 (divE (p 0) s (divZ (p 0) s))]), .v, .v, .v, .v, .put 3, .v, .c, .c, .c, .v, .v, .c] (.split 42 (.s [.c, .c, .c, .v, .v, .put 1, .v, .c] (.ret [1])) (.s [.c, .c, .c, .c, .v, .v, .c, .c, .c, .c, .v, .c, .c, .c, .c, .c, .c, .c, .c, .v, .v, .c, .c, .c, .v, .v, .v, .own 0, .v, .call (.tuple #[.int .i64 (divV (p 1) s (divZ (p 1) s)), .int .i64 (divE (p 1) s (divZ (p 1) s))]), .v, .v, .v, .v, .put 3, .v, .c, .c, .c, .v, .v, .c] (.split 42 (.s [.c, .c, .c, .v, .v, .put 1, .v, .c] (.ret [1])) (.s [.c, .c, .c, .c, .v, .v, .c, .c, .c, .c, .v, .c, .c, .c, .c, .c, .c, .c, .c, .v, .v, .c, .c, .c, .v, .v, .v, .own 0, .v, .call (.tuple #[.int .i64 (divV (p 2) s (divZ (p 2) s)), .int .i64 (divE (p 2) s (divZ (p 2) s))]), .v, .v, .v, .v, .put 3, .v, .c, .c, .c, .v, .v, .c] (.split 42 (.s [.c, .c, .c, .v, .v, .put 1, .v, .c] (.ret [1])) (.s [.c, .c, .c, .c, .v, .v, .c, .c, .c, .c, .v, .c, .c, .c, .c, .c, .c, .own 3, .put 1, .v, .c] (.ret [1])))))))))))))))))))))
    (by kernel_rfl) hG hE Tryd.func19 (by kernel_rfl) (by kernel_rfl) (Eq.mpr (by kernel_rfl) h)
set_option maxRecDepth 1000000 in
set_option maxHeartbeats 8000000 in
theorem gain_Best (p : Nat → Int) (s : Int) (hp6 : ∀ i, I64 (p i)) (hs : I64 s) (w : World) (hg : GN w) (hl : GL w) : Calls Tryd.prog 19 #[.agg #[.int .i64 (p 0), .int .i64 (p 1), .int .i64 (p 2), .int .i64 (p 3), .int .i64 (p 4), .int .i64 (p 5)], .int .i64 s] w (fun e w' => e = .returned (.tuple #[.agg #[.int .i64 (bestV p s 0), .int .i64 (bestV p s 1), .int .i64 (bestV p s 2)], .int .i64 (bestE p s)]) ∧ Below w.heap.size w w') := by
  refine gain_Best_plan p s w _ (St.refl w) Ex.nil ?_
  intro r1
  intro r2
  refine ⟨rfl, (CallV.be fun W hS => sym_Add p (v6 0 0 0 0 0 0) W), ?_⟩
  intro r3
  refine ⟨⟨rfl, rfl, rfl, rfl, rfl, rfl, trivial⟩, ?_⟩
  refine ⟨?_, ?_⟩
  · intro h4
    have h4p : ¬ ((addE p (v6 0 0 0 0 0 0)) = 0) := by simpa using h4
    have F6 := gadd_no h4p
    refine ⟨⟨rfl, rfl, rfl, trivial⟩, ⟨rfl, trivial⟩, ?_⟩
    have F := best_no (p := p) (s := s) (by unfold bestB; simp [F6])
    exact fun W hS => ⟨by simp only [F.1, F.2], hS.bl⟩
  · intro h5
    have h5p : (addE p (v6 0 0 0 0 0 0)) = 0 := by simpa using h5
    have F6 := gadd_ok h5p
    refine ⟨(CallV.of fun W hS => fix_Fits s  W ), ?_⟩
    refine ⟨?_, ?_⟩
    · intro h60
      have h6 : (fitB s) = false := by simpa using h60
      refine ⟨⟨rfl, rfl, rfl, trivial⟩, ⟨rfl, trivial⟩, ?_⟩
      have F := best_no (p := p) (s := s) (by unfold bestB; simp [h6])
      exact fun W hS => ⟨by simp only [F.1, F.2], hS.bl⟩
    · intro h70
      have h7 : (fitB s) = true := by simpa using h70
      refine ⟨?_, ?_⟩
      · intro h8
        have h8p : s < 1 := by simpa using h8
        refine ⟨⟨rfl, rfl, rfl, trivial⟩, ⟨rfl, trivial⟩, ?_⟩
        have z : ¬ 1 ≤ s := by omega
        have F := best_no (p := p) (s := s) (by unfold bestB; simp [z])
        exact fun W hS => ⟨by simp only [F.1, F.2], hS.bl⟩
      · intro h9
        have h9p : ¬ (s < 1) := by simpa using h9
        intro r10
        refine ⟨rfl, (CallV.be fun W hS => fix_Div (p 0) s  W (hg.below hS.bl) (hl.below hS.bl)), ⟨rfl, trivial⟩, ?_⟩
        refine ⟨?_, ?_⟩
        · intro h11
          have h11p : ¬ ((divE (p 0) s (divZ (p 0) s)) = 0) := by simpa using h11
          refine ⟨⟨rfl, rfl, rfl, trivial⟩, ⟨rfl, trivial⟩, ?_⟩
          have B : bestB p s = true := by unfold bestB; rw [F6, h7, decide_eq_true (show 1 ≤ s by omega)]; rfl
          have h0 : s ≠ 0 := by omega
          have D0 := div_yes (z := divZ (p 0) s) (fits6_3 F6).1 h7 h0
          have D1 := div_yes (z := divZ (p 1) s) (fits6_3 F6).2.1 h7 h0
          have D2 := div_yes (z := divZ (p 2) s) (fits6_3 F6).2.2 h7 h0
          have q0 := h11p; rw [D0.2] at q0
          have K := each_1 (e0 := toE (divZ (p 0) s)) (e1 := toE (divZ (p 1) s)) (e2 := toE (divZ (p 2) s)) q0
          have F := best_yes B
          exact fun W hS => ⟨by simp only [F.1, F.2, K.1, K.2, D0.1, D0.2, D1.1, D1.2, D2.1, D2.2], hS.bl⟩
        · intro h12
          have h12p : (divE (p 0) s (divZ (p 0) s)) = 0 := by simpa using h12
          refine ⟨rfl, (CallV.be fun W hS => fix_Div (p 1) s  W (hg.below hS.bl) (hl.below hS.bl)), ⟨rfl, trivial⟩, ?_⟩
          refine ⟨?_, ?_⟩
          · intro h13
            have h13p : ¬ ((divE (p 1) s (divZ (p 1) s)) = 0) := by simpa using h13
            refine ⟨⟨rfl, rfl, rfl, trivial⟩, ⟨rfl, trivial⟩, ?_⟩
            have B : bestB p s = true := by unfold bestB; rw [F6, h7, decide_eq_true (show 1 ≤ s by omega)]; rfl
            have h0 : s ≠ 0 := by omega
            have D0 := div_yes (z := divZ (p 0) s) (fits6_3 F6).1 h7 h0
            have D1 := div_yes (z := divZ (p 1) s) (fits6_3 F6).2.1 h7 h0
            have D2 := div_yes (z := divZ (p 2) s) (fits6_3 F6).2.2 h7 h0
            have q0 := h12p; rw [D0.2] at q0
            have q1 := h13p; rw [D1.2] at q1
            have K := each_2 (e0 := toE (divZ (p 0) s)) (e1 := toE (divZ (p 1) s)) (e2 := toE (divZ (p 2) s)) q0 q1
            have F := best_yes B
            exact fun W hS => ⟨by simp only [F.1, F.2, K.1, K.2, D0.1, D0.2, D1.1, D1.2, D2.1, D2.2], hS.bl⟩
          · intro h14
            have h14p : (divE (p 1) s (divZ (p 1) s)) = 0 := by simpa using h14
            refine ⟨rfl, (CallV.be fun W hS => fix_Div (p 2) s  W (hg.below hS.bl) (hl.below hS.bl)), ⟨rfl, trivial⟩, ?_⟩
            refine ⟨?_, ?_⟩
            · intro h15
              have h15p : ¬ ((divE (p 2) s (divZ (p 2) s)) = 0) := by simpa using h15
              refine ⟨⟨rfl, rfl, rfl, trivial⟩, ⟨rfl, trivial⟩, ?_⟩
              have B : bestB p s = true := by unfold bestB; rw [F6, h7, decide_eq_true (show 1 ≤ s by omega)]; rfl
              have h0 : s ≠ 0 := by omega
              have D0 := div_yes (z := divZ (p 0) s) (fits6_3 F6).1 h7 h0
              have D1 := div_yes (z := divZ (p 1) s) (fits6_3 F6).2.1 h7 h0
              have D2 := div_yes (z := divZ (p 2) s) (fits6_3 F6).2.2 h7 h0
              have q0 := h12p; rw [D0.2] at q0
              have q1 := h14p; rw [D1.2] at q1
              have q2 := h15p; rw [D2.2] at q2
              have K := each_3 (e0 := toE (divZ (p 0) s)) (e1 := toE (divZ (p 1) s)) (e2 := toE (divZ (p 2) s)) q0 q1 q2
              have F := best_yes B
              exact fun W hS => ⟨by simp only [F.1, F.2, K.1, K.2, D0.1, D0.2, D1.1, D1.2, D2.1, D2.2], hS.bl⟩
            · intro h16
              have h16p : (divE (p 2) s (divZ (p 2) s)) = 0 := by simpa using h16
              refine ⟨rfl, ⟨rfl, rfl, rfl, trivial⟩, ⟨rfl, trivial⟩, ?_⟩
              have B : bestB p s = true := by unfold bestB; rw [F6, h7, decide_eq_true (show 1 ≤ s by omega)]; rfl
              have h0 : s ≠ 0 := by omega
              have D0 := div_yes (z := divZ (p 0) s) (fits6_3 F6).1 h7 h0
              have D1 := div_yes (z := divZ (p 1) s) (fits6_3 F6).2.1 h7 h0
              have D2 := div_yes (z := divZ (p 2) s) (fits6_3 F6).2.2 h7 h0
              have q0 := h12p; rw [D0.2] at q0
              have q1 := h14p; rw [D1.2] at q1
              have q2 := h16p; rw [D2.2] at q2
              have K := each_4 (e0 := toE (divZ (p 0) s)) (e1 := toE (divZ (p 1) s)) (e2 := toE (divZ (p 2) s)) q0 q1 q2
              have F := best_yes B
              exact fun W hS => ⟨by simp only [F.1, F.2, K.1, K.2, D0.1, D0.2, D1.1, D1.2, D2.1, D2.2], hS.bl⟩
set_option maxRecDepth 1000000 in
set_option maxHeartbeats 8000000 in
theorem ref11_Best_plan (p : Nat → Int) (s : Int) (w : World) (R : Ending → World → Prop) (hG : St w w [] []) (hE : Ex w [])
    (h : ∀ r1 : Nat, ∀ r2 : Nat, r1 = r1 ∧ CallV Tryd.prog w [(r1, [.int .i64 (p 0), .int .i64 (p 1), .int .i64 (p 2), .int .i64 (p 3), .int .i64 (p 4), .int .i64 (p 5)]), (r2, [.int .i64 0, .int .i64 0, .int .i64 0])] [] 25 #[.agg #[.int .i64 (p 0), .int .i64 (p 1), .int .i64 (p 2), .int .i64 (p 3), .int .i64 (p 4), .int .i64 (p 5)]] (.bool (fits6 p)) ∧ (((!(fits6 p)) = true → (r2 = r2 ∧ (r2 = r2 ∧ (r2 = r2 ∧ (True)))) ∧ (r2 = r2 ∧ (True)) ∧ (LeafV R w [(r1, [.int .i64 (p 0), .int .i64 (p 1), .int .i64 (p 2), .int .i64 (p 3), .int .i64 (p 4), .int .i64 (p 5)]), (r2, [.int .i64 0, .int .i64 0, .int .i64 0])] [] (.tuple #[.agg #[.int .i64 0, .int .i64 0, .int .i64 0], .int .i64 1]))) ∧ ((!(fits6 p)) = false → CallV Tryd.prog w [(r1, [.int .i64 (p 0), .int .i64 (p 1), .int .i64 (p 2), .int .i64 (p 3), .int .i64 (p 4), .int .i64 (p 5)]), (r2, [.int .i64 0, .int .i64 0, .int .i64 0])] [] 46 #[.int .i64 s] (.bool (fitB s)) ∧ (((!(fitB s)) = true → (r2 = r2 ∧ (r2 = r2 ∧ (r2 = r2 ∧ (True)))) ∧ (r2 = r2 ∧ (True)) ∧ (LeafV R w [(r1, [.int .i64 (p 0), .int .i64 (p 1), .int .i64 (p 2), .int .i64 (p 3), .int .i64 (p 4), .int .i64 (p 5)]), (r2, [.int .i64 0, .int .i64 0, .int .i64 0])] [] (.tuple #[.agg #[.int .i64 0, .int .i64 0, .int .i64 0], .int .i64 1]))) ∧ ((!(fitB s)) = false → ((decide (s < 1)) = true → (r2 = r2 ∧ (r2 = r2 ∧ (r2 = r2 ∧ (True)))) ∧ (r2 = r2 ∧ (True)) ∧ (LeafV R w [(r1, [.int .i64 (p 0), .int .i64 (p 1), .int .i64 (p 2), .int .i64 (p 3), .int .i64 (p 4), .int .i64 (p 5)]), (r2, [.int .i64 0, .int .i64 0, .int .i64 0])] [] (.tuple #[.agg #[.int .i64 0, .int .i64 0, .int .i64 0], .int .i64 1]))) ∧ ((decide (s < 1)) = false → ∀ r9 : Nat, (r9 = r9 ∧ (r9 = r9 ∧ (r9 = r9 ∧ (True)))) ∧ CallV Tryd.prog w [(r1, [.int .i64 (p 0), .int .i64 (p 1), .int .i64 (p 2), .int .i64 (p 3), .int .i64 (p 4), .int .i64 (p 5)]), (r2, [.int .i64 0, .int .i64 0, .int .i64 0]), (r9, [.int .i64 0, .int .i64 0, .int .i64 0])] [] 59 #[.int .i64 0, .int .i64 0] (.int .i64 0) ∧ r1 = r1 ∧ CallV Tryd.prog w [(r1, [.int .i64 (p 0), .int .i64 (p 1), .int .i64 (p 2), .int .i64 (p 3), .int .i64 (p 4), .int .i64 (p 5)]), (r2, [.int .i64 0, .int .i64 0, .int .i64 0]), (r9, [.int .i64 0, .int .i64 0, .int .i64 0])] [] 71 #[.int .i64 (p 0), .int .i64 s] (.tuple #[.int .i64 (divV (p 0) s (divZ (p 0) s)), .int .i64 (divE (p 0) s (divZ (p 0) s))]) ∧ ((((divE (p 0) s (divZ (p 0) s)) != 0) = true → (r2 = r2 ∧ (r2 = r2 ∧ (r2 = r2 ∧ (True)))) ∧ (r2 = r2 ∧ (True)) ∧ (LeafV R w [(r1, [.int .i64 (p 0), .int .i64 (p 1), .int .i64 (p 2), .int .i64 (p 3), .int .i64 (p 4), .int .i64 (p 5)]), (r2, [.int .i64 0, .int .i64 0, .int .i64 0]), (r9, [.int .i64 0, .int .i64 0, .int .i64 0])] [] (.tuple #[.agg #[.int .i64 0, .int .i64 0, .int .i64 0], .int .i64 (divE (p 0) s (divZ (p 0) s))]))) ∧ (((divE (p 0) s (divZ (p 0) s)) != 0) = false → (r9 = r9 ∧ (True)) ∧ CallV Tryd.prog w [(r1, [.int .i64 (p 0), .int .i64 (p 1), .int .i64 (p 2), .int .i64 (p 3), .int .i64 (p 4), .int .i64 (p 5)]), (r2, [.int .i64 0, .int .i64 0, .int .i64 0]), (r9, [.int .i64 (divV (p 0) s (divZ (p 0) s)), .int .i64 0, .int .i64 0])] [] 59 #[.int .i64 0, .int .i64 1] (.int .i64 1) ∧ r1 = r1 ∧ CallV Tryd.prog w [(r1, [.int .i64 (p 0), .int .i64 (p 1), .int .i64 (p 2), .int .i64 (p 3), .int .i64 (p 4), .int .i64 (p 5)]), (r2, [.int .i64 0, .int .i64 0, .int .i64 0]), (r9, [.int .i64 (divV (p 0) s (divZ (p 0) s)), .int .i64 0, .int .i64 0])] [] 71 #[.int .i64 (p 1), .int .i64 s] (.tuple #[.int .i64 (divV (p 1) s (divZ (p 1) s)), .int .i64 (divE (p 1) s (divZ (p 1) s))]) ∧ ((((divE (p 1) s (divZ (p 1) s)) != 0) = true → (r2 = r2 ∧ (r2 = r2 ∧ (r2 = r2 ∧ (True)))) ∧ (r2 = r2 ∧ (True)) ∧ (LeafV R w [(r1, [.int .i64 (p 0), .int .i64 (p 1), .int .i64 (p 2), .int .i64 (p 3), .int .i64 (p 4), .int .i64 (p 5)]), (r2, [.int .i64 0, .int .i64 0, .int .i64 0]), (r9, [.int .i64 (divV (p 0) s (divZ (p 0) s)), .int .i64 0, .int .i64 0])] [] (.tuple #[.agg #[.int .i64 0, .int .i64 0, .int .i64 0], .int .i64 (divE (p 1) s (divZ (p 1) s))]))) ∧ (((divE (p 1) s (divZ (p 1) s)) != 0) = false → (r9 = r9 ∧ (True)) ∧ CallV Tryd.prog w [(r1, [.int .i64 (p 0), .int .i64 (p 1), .int .i64 (p 2), .int .i64 (p 3), .int .i64 (p 4), .int .i64 (p 5)]), (r2, [.int .i64 0, .int .i64 0, .int .i64 0]), (r9, [.int .i64 (divV (p 0) s (divZ (p 0) s)), .int .i64 (divV (p 1) s (divZ (p 1) s)), .int .i64 0])] [] 59 #[.int .i64 0, .int .i64 2] (.int .i64 2) ∧ r1 = r1 ∧ CallV Tryd.prog w [(r1, [.int .i64 (p 0), .int .i64 (p 1), .int .i64 (p 2), .int .i64 (p 3), .int .i64 (p 4), .int .i64 (p 5)]), (r2, [.int .i64 0, .int .i64 0, .int .i64 0]), (r9, [.int .i64 (divV (p 0) s (divZ (p 0) s)), .int .i64 (divV (p 1) s (divZ (p 1) s)), .int .i64 0])] [] 71 #[.int .i64 (p 2), .int .i64 s] (.tuple #[.int .i64 (divV (p 2) s (divZ (p 2) s)), .int .i64 (divE (p 2) s (divZ (p 2) s))]) ∧ ((((divE (p 2) s (divZ (p 2) s)) != 0) = true → (r2 = r2 ∧ (r2 = r2 ∧ (r2 = r2 ∧ (True)))) ∧ (r2 = r2 ∧ (True)) ∧ (LeafV R w [(r1, [.int .i64 (p 0), .int .i64 (p 1), .int .i64 (p 2), .int .i64 (p 3), .int .i64 (p 4), .int .i64 (p 5)]), (r2, [.int .i64 0, .int .i64 0, .int .i64 0]), (r9, [.int .i64 (divV (p 0) s (divZ (p 0) s)), .int .i64 (divV (p 1) s (divZ (p 1) s)), .int .i64 0])] [] (.tuple #[.agg #[.int .i64 0, .int .i64 0, .int .i64 0], .int .i64 (divE (p 2) s (divZ (p 2) s))]))) ∧ (((divE (p 2) s (divZ (p 2) s)) != 0) = false → (r9 = r9 ∧ (True)) ∧ r9 = r9 ∧ (r2 = r2 ∧ (r2 = r2 ∧ (r2 = r2 ∧ (True)))) ∧ (r2 = r2 ∧ (True)) ∧ (LeafV R w [(r1, [.int .i64 (p 0), .int .i64 (p 1), .int .i64 (p 2), .int .i64 (p 3), .int .i64 (p 4), .int .i64 (p 5)]), (r2, [.int .i64 (divV (p 0) s (divZ (p 0) s)), .int .i64 (divV (p 1) s (divZ (p 1) s)), .int .i64 (divV (p 2) s (divZ (p 2) s))]), (r9, [.int .i64 (divV (p 0) s (divZ (p 0) s)), .int .i64 (divV (p 1) s (divZ (p 1) s)), .int .i64 (divV (p 2) s (divZ (p 2) s))])] [] (.tuple #[.agg #[.int .i64 (divV (p 0) s (divZ (p 0) s)), .int .i64 (divV (p 1) s (divZ (p 1) s)), .int .i64 (divV (p 2) s (divZ (p 2) s))], .int .i64 0])))))))))))))) : Calls Tryd.prog 31 #[.agg #[.int .i64 (p 0), .int .i64 (p 1), .int .i64 (p 2), .int .i64 (p 3), .int .i64 (p 4), .int .i64 (p 5)], .int .i64 s] w R :=
  calls_of_plan (f := 31) (es := []) (c := Tryd.f31.body.getD .skip) (tmps := #[.agg #[.int .i64 (p 0), .int .i64 (p 1), .int .i64 (p 2), .int .i64 (p 3), .int .i64 (p 4), .int .i64 (p 5)], .int .i64 s, undef, undef, undef, undef, undef, undef, undef, undef, undef, undef, undef, undef, undef, undef, undef, undef, undef, undef, undef, undef, undef, undef, undef, undef, undef, undef, undef, undef, undef, undef, undef, undef, undef, undef, undef, undef, undef, undef, undef, undef, undef, undef, undef])
    (.s [.c, .c] (.new (fun r1 => .new (fun r2 => .s [.v, .c, .c, .c, .c, .own 0, .call (.bool (fits6 p)), .v, .v] (.split 13 (.s [.u, .u, .u, .v, .v, .u, .u, .v, .c, .c, .c, .c, .v, .put 1, .v, .c] (.ret [1])) (.s [.v, .call (.bool (fitB s)), .v, .v, .v] (.split 18 (.s [.u, .u, .v, .c, .c, .c, .c, .v, .put 1, .v, .c] (.ret [1])) (.s [.v, .v, .v, .c] (.split 21 (.s [.c, .c, .c, .v, .put 1, .v, .c] (.ret [1])) (.s [.c, .c, .c, .c, .v] (.new (fun r9 => .s [.put 2, .c, .c, .c, .c, .v, .c, .c, .c, .c, .c, .c, .v, .v, .c, .c, .c, .c, .c, .c, .c, .v, .call (.int .i64 0), .v, .own 0, .v, .call (.tuple #[.int .i64 (divV (p 0) s (divZ (p 0) s)), .int .i64 (divE (p 0) s (divZ (p 0) s))]), .v, .v, .v, .v, .v, .c, .c, .c, .c, .v, .v, .c] (.split 38 (.s [.c, .c, .c, .v, .v, .put 1, .v, .c] (.ret [1])) (.s [.c, .c, .c, .v, .v, .v, .put 2, .c, .c, .c, .v, .v, .v, .c, .c, .c, .c, .c, .v, .v, .c, .c, .c, .c, .c, .c, .c, .v, .call (.int .i64 1), .v, .own 0, .v, .call (.tuple #[.int .i64 (divV (p 1) s (divZ (p 1) s)), .int .i64 (divE (p 1) s (divZ (p 1) s))]), .v, .v, .v, .v, .v, .c, .c, .c, .c, .v, .v, .c] (.split 38 (.s [.c, .c, .c, .v, .v, .put 1, .v, .c] (.ret [1])) (.s [.c, .c, .c, .v, .v, .v, .put 2, .c, .c, .c, .v, .v, .v, .c, .c, .c, .c, .c, .v, .v, .c, .c, .c, .c, .c, .c, .c, .v, .call (.int .i64 2), .v, .own 0, .v, .call (.tuple #[.int .i64 (divV (p 2) s (divZ (p 2) s)), .int .i64 (divE (p 2) s (divZ (p 2) s))]), .v, .v, .v, .v, .v, .c, .c, .c, .c, .v, .v, .c] (.split 38 (.s [.c, .c, .c, .v, .v, .put 1, .v, .c] (.ret [1])) (.s [.c, .c, .c, .v, .v, .v, .put 2, .c, .c, .c, .v, .v, .v, .c, .c, .c, .c, .c, .v, .v, .c, .c, .c, .c, .c, .own 2, .put 1, .v, .c] (.ret [1])))))))))))))))))))
    (by kernel_rfl) hG hE Tryd.func31 (by kernel_rfl) (by kernel_rfl) (Eq.mpr (by kernel_rfl) h)
set_option maxRecDepth 1000000 in
set_option maxHeartbeats 8000000 in
theorem ref11_Best (p : Nat → Int) (s : Int) (hp6 : ∀ i, I64 (p i)) (hs : I64 s) (w : World)  : Calls Tryd.prog 31 #[.agg #[.int .i64 (p 0), .int .i64 (p 1), .int .i64 (p 2), .int .i64 (p 3), .int .i64 (p 4), .int .i64 (p 5)], .int .i64 s] w (fun e w' => e = .returned (.tuple #[.agg #[.int .i64 (bestV p s 0), .int .i64 (bestV p s 1), .int .i64 (bestV p s 2)], .int .i64 (bestE p s)]) ∧ Below w.heap.size w w') := by
  refine ref11_Best_plan p s w _ (St.refl w) Ex.nil ?_
  intro r1
  intro r2
  refine ⟨rfl, (CallV.be fun W hS => ref5_Fits p W), ?_⟩
  refine ⟨?_, ?_⟩
  · intro h30
    have h3 : (fits6 p) = false := by simpa using h30
    have F6 := h3
    refine ⟨⟨rfl, rfl, rfl, trivial⟩, ⟨rfl, trivial⟩, ?_⟩
    have F := best_no (p := p) (s := s) (by unfold bestB; simp [F6])
    exact fun W hS => ⟨by simp only [F.1, F.2], hS.bl⟩
  · intro h40
    have h4 : (fits6 p) = true := by simpa using h40
    have F6 := h4
    refine ⟨(CallV.of fun W hS => ref2_Fits s  W ), ?_⟩
    refine ⟨?_, ?_⟩
    · intro h50
      have h5 : (fitB s) = false := by simpa using h50
      refine ⟨⟨rfl, rfl, rfl, trivial⟩, ⟨rfl, trivial⟩, ?_⟩
      have F := best_no (p := p) (s := s) (by unfold bestB; simp [h5])
      exact fun W hS => ⟨by simp only [F.1, F.2], hS.bl⟩
    · intro h60
      have h6 : (fitB s) = true := by simpa using h60
      refine ⟨?_, ?_⟩
      · intro h7
        have h7p : s < 1 := by simpa using h7
        refine ⟨⟨rfl, rfl, rfl, trivial⟩, ⟨rfl, trivial⟩, ?_⟩
        have z : ¬ 1 ≤ s := by omega
        have F := best_no (p := p) (s := s) (by unfold bestB; simp [z])
        exact fun W hS => ⟨by simp only [F.1, F.2], hS.bl⟩
      · intro h8
        have h8p : ¬ (s < 1) := by simpa using h8
        intro r9
        refine ⟨⟨rfl, rfl, rfl, trivial⟩, (CallV.of fun W hS => Place_00 W), rfl, (CallV.be fun W hS => ref2_Div (p 0) s  W ), ?_⟩
        refine ⟨?_, ?_⟩
        · intro h10
          have h10p : ¬ ((divE (p 0) s (divZ (p 0) s)) = 0) := by simpa using h10
          refine ⟨⟨rfl, rfl, rfl, trivial⟩, ⟨rfl, trivial⟩, ?_⟩
          have B : bestB p s = true := by unfold bestB; rw [F6, h6, decide_eq_true (show 1 ≤ s by omega)]; rfl
          have h0 : s ≠ 0 := by omega
          have D0 := div_yes (z := divZ (p 0) s) (fits6_3 F6).1 h6 h0
          have D1 := div_yes (z := divZ (p 1) s) (fits6_3 F6).2.1 h6 h0
          have D2 := div_yes (z := divZ (p 2) s) (fits6_3 F6).2.2 h6 h0
          have q0 := h10p; rw [D0.2] at q0
          have K := each_1 (e0 := toE (divZ (p 0) s)) (e1 := toE (divZ (p 1) s)) (e2 := toE (divZ (p 2) s)) q0
          have F := best_yes B
          exact fun W hS => ⟨by simp only [F.1, F.2, K.1, K.2, D0.1, D0.2, D1.1, D1.2, D2.1, D2.2], hS.bl⟩
        · intro h11
          have h11p : (divE (p 0) s (divZ (p 0) s)) = 0 := by simpa using h11
          refine ⟨⟨rfl, trivial⟩, (CallV.of fun W hS => Place_01 W), rfl, (CallV.be fun W hS => ref2_Div (p 1) s  W ), ?_⟩
          refine ⟨?_, ?_⟩
          · intro h12
            have h12p : ¬ ((divE (p 1) s (divZ (p 1) s)) = 0) := by simpa using h12
            refine ⟨⟨rfl, rfl, rfl, trivial⟩, ⟨rfl, trivial⟩, ?_⟩
            have B : bestB p s = true := by unfold bestB; rw [F6, h6, decide_eq_true (show 1 ≤ s by omega)]; rfl
            have h0 : s ≠ 0 := by omega
            have D0 := div_yes (z := divZ (p 0) s) (fits6_3 F6).1 h6 h0
            have D1 := div_yes (z := divZ (p 1) s) (fits6_3 F6).2.1 h6 h0
            have D2 := div_yes (z := divZ (p 2) s) (fits6_3 F6).2.2 h6 h0
            have q0 := h11p; rw [D0.2] at q0
            have q1 := h12p; rw [D1.2] at q1
            have K := each_2 (e0 := toE (divZ (p 0) s)) (e1 := toE (divZ (p 1) s)) (e2 := toE (divZ (p 2) s)) q0 q1
            have F := best_yes B
            exact fun W hS => ⟨by simp only [F.1, F.2, K.1, K.2, D0.1, D0.2, D1.1, D1.2, D2.1, D2.2], hS.bl⟩
          · intro h13
            have h13p : (divE (p 1) s (divZ (p 1) s)) = 0 := by simpa using h13
            refine ⟨⟨rfl, trivial⟩, (CallV.of fun W hS => Place_02 W), rfl, (CallV.be fun W hS => ref2_Div (p 2) s  W ), ?_⟩
            refine ⟨?_, ?_⟩
            · intro h14
              have h14p : ¬ ((divE (p 2) s (divZ (p 2) s)) = 0) := by simpa using h14
              refine ⟨⟨rfl, rfl, rfl, trivial⟩, ⟨rfl, trivial⟩, ?_⟩
              have B : bestB p s = true := by unfold bestB; rw [F6, h6, decide_eq_true (show 1 ≤ s by omega)]; rfl
              have h0 : s ≠ 0 := by omega
              have D0 := div_yes (z := divZ (p 0) s) (fits6_3 F6).1 h6 h0
              have D1 := div_yes (z := divZ (p 1) s) (fits6_3 F6).2.1 h6 h0
              have D2 := div_yes (z := divZ (p 2) s) (fits6_3 F6).2.2 h6 h0
              have q0 := h11p; rw [D0.2] at q0
              have q1 := h13p; rw [D1.2] at q1
              have q2 := h14p; rw [D2.2] at q2
              have K := each_3 (e0 := toE (divZ (p 0) s)) (e1 := toE (divZ (p 1) s)) (e2 := toE (divZ (p 2) s)) q0 q1 q2
              have F := best_yes B
              exact fun W hS => ⟨by simp only [F.1, F.2, K.1, K.2, D0.1, D0.2, D1.1, D1.2, D2.1, D2.2], hS.bl⟩
            · intro h15
              have h15p : (divE (p 2) s (divZ (p 2) s)) = 0 := by simpa using h15
              refine ⟨⟨rfl, trivial⟩, rfl, ⟨rfl, rfl, rfl, trivial⟩, ⟨rfl, trivial⟩, ?_⟩
              have B : bestB p s = true := by unfold bestB; rw [F6, h6, decide_eq_true (show 1 ≤ s by omega)]; rfl
              have h0 : s ≠ 0 := by omega
              have D0 := div_yes (z := divZ (p 0) s) (fits6_3 F6).1 h6 h0
              have D1 := div_yes (z := divZ (p 1) s) (fits6_3 F6).2.1 h6 h0
              have D2 := div_yes (z := divZ (p 2) s) (fits6_3 F6).2.2 h6 h0
              have q0 := h11p; rw [D0.2] at q0
              have q1 := h13p; rw [D1.2] at q1
              have q2 := h15p; rw [D2.2] at q2
              have K := each_4 (e0 := toE (divZ (p 0) s)) (e1 := toE (divZ (p 1) s)) (e2 := toE (divZ (p 2) s)) q0 q1 q2
              have F := best_yes B
              exact fun W hS => ⟨by simp only [F.1, F.2, K.1, K.2, D0.1, D0.2, D1.1, D1.2, D2.1, D2.2], hS.bl⟩
set_option maxRecDepth 1000000 in
set_option maxHeartbeats 8000000 in
theorem gain_Mild_plan (k : Nat → Int) (w : World) (R : Ending → World → Prop) (hG : St w w [] []) (hE : Ex w [])
    (h : ∀ r1 : Nat, r1 = r1 ∧ (((decide ((k 0) ≥ 0)) = true → r1 = r1 ∧ (True) ∧ (LeafV R w [(r1, [.int .i64 (k 0), .int .i64 (k 1), .int .i64 (k 2)])] [] (.bool (decide ((k 0) ≤ 1099511627776))))) ∧ ((decide ((k 0) ≥ 0)) = false → (True) ∧ (LeafV R w [(r1, [.int .i64 (k 0), .int .i64 (k 1), .int .i64 (k 2)])] [] (.bool false))))) : Calls Tryd.prog 21 #[.agg #[.int .i64 (k 0), .int .i64 (k 1), .int .i64 (k 2)]] w R :=
  calls_of_plan (f := 21) (es := []) (c := Tryd.f21.body.getD .skip) (tmps := #[.agg #[.int .i64 (k 0), .int .i64 (k 1), .int .i64 (k 2)], undef, undef, undef, undef, undef, undef, undef, undef, undef, undef])
    (.s [.c, .c] (.new (fun r1 => .s [.v, .c, .c, .c, .v, .own 0, .v, .v] (.split 6 (.s [.v, .own 0, .v, .v, .v, .c] (.ret [])) (.s [.u, .u, .u, .v, .v, .c] (.ret []))))))
    (by kernel_rfl) hG hE Tryd.func21 (by kernel_rfl) (by kernel_rfl) (Eq.mpr (by kernel_rfl) h)
set_option maxRecDepth 1000000 in
set_option maxHeartbeats 8000000 in
theorem gain_Mild (k : Nat → Int)  (w : World)  : Calls Tryd.prog 21 #[.agg #[.int .i64 (k 0), .int .i64 (k 1), .int .i64 (k 2)]] w (fun e w' => e = .returned (.bool (mildB k)) ∧ Below w.heap.size w w') := by
  refine gain_Mild_plan k w _ (St.refl w) Ex.nil ?_
  intro r1
  refine ⟨rfl, ?_⟩
  refine ⟨?_, ?_⟩
  · intro h2
    have h2p : (k 0) ≥ 0 := by simpa using h2
    refine ⟨rfl, trivial, ?_⟩
    exact fun W hS => ⟨by simp only [mildB, h2, Bool.true_and, Bool.false_and], hS.bl⟩
  · intro h3
    have h3p : ¬ ((k 0) ≥ 0) := by simpa using h3
    refine ⟨trivial, ?_⟩
    exact fun W hS => ⟨by simp only [mildB, h3, Bool.true_and, Bool.false_and], hS.bl⟩
set_option maxRecDepth 1000000 in
set_option maxHeartbeats 8000000 in
theorem law11_fixed_plan  (w : World) (R : Ending → World → Prop) (hG : St w w [] []) (hE : Ex w [])
    (h : CallV Tryd.prog w [] [] 19 #[.agg #[.int .i64 1099511627776, .int .i64 1099511627776, .int .i64 0, .int .i64 0, .int .i64 0, .int .i64 0], .int .i64 2199023255552] (.tuple #[.agg #[.int .i64 (bestV (v6 1099511627776 1099511627776 0 0 0 0) 2199023255552 0), .int .i64 (bestV (v6 1099511627776 1099511627776 0 0 0 0) 2199023255552 1), .int .i64 (bestV (v6 1099511627776 1099511627776 0 0 0 0) 2199023255552 2)], .int .i64 (bestE (v6 1099511627776 1099511627776 0 0 0 0) 2199023255552)]) ∧ (∀ r1 : Nat, (r1 = r1 ∧ (r1 = r1 ∧ (r1 = r1 ∧ (True)))) ∧ Value.bool ((bestE (v6 1099511627776 1099511627776 0 0 0 0) 2199023255552) == 0) = .bool true ∧ r1 = r1 ∧ EqV Tryd.prog 23 (.agg #[.int .i64 (bestV (v6 1099511627776 1099511627776 0 0 0 0) 2199023255552 0), .int .i64 (bestV (v6 1099511627776 1099511627776 0 0 0 0) 2199023255552 1), .int .i64 (bestV (v6 1099511627776 1099511627776 0 0 0 0) 2199023255552 2)]) (.agg #[.int .i64 549755813888, .int .i64 549755813888, .int .i64 0]) ([(bestV (v6 1099511627776 1099511627776 0 0 0 0) 2199023255552 0), (bestV (v6 1099511627776 1099511627776 0 0 0 0) 2199023255552 1), (bestV (v6 1099511627776 1099511627776 0 0 0 0) 2199023255552 2)] == [549755813888, 549755813888, 0]) ∧ (True) ∧ (LeafV R w [(r1, [.int .i64 (bestV (v6 1099511627776 1099511627776 0 0 0 0) 2199023255552 0), .int .i64 (bestV (v6 1099511627776 1099511627776 0 0 0 0) 2199023255552 1), .int .i64 (bestV (v6 1099511627776 1099511627776 0 0 0 0) 2199023255552 2)])] [] (.bool ([(bestV (v6 1099511627776 1099511627776 0 0 0 0) 2199023255552 0), (bestV (v6 1099511627776 1099511627776 0 0 0 0) 2199023255552 1), (bestV (v6 1099511627776 1099511627776 0 0 0 0) 2199023255552 2)] == [549755813888, 549755813888, 0]))))) : Calls Tryd.prog 20 #[] w R :=
  calls_of_plan (f := 20) (es := []) (c := Tryd.f20.body.getD .skip) (tmps := #[undef, undef, undef, undef, undef, undef, undef, undef, undef, undef, undef, undef, undef, undef, undef])
    (.s [.c, .c, .v, .c, .c, .c, .v, .call (.tuple #[.agg #[.int .i64 (bestV (v6 1099511627776 1099511627776 0 0 0 0) 2199023255552 0), .int .i64 (bestV (v6 1099511627776 1099511627776 0 0 0 0) 2199023255552 1), .int .i64 (bestV (v6 1099511627776 1099511627776 0 0 0 0) 2199023255552 2)], .int .i64 (bestE (v6 1099511627776 1099511627776 0 0 0 0) 2199023255552)]), .v, .v, .v] (.new (fun r1 => .s [.put 0, .v, .c, .c, .c, .v, .v, .v, .setv 10 (.bool true), .own 0, .v, .eq ([(bestV (v6 1099511627776 1099511627776 0 0 0 0) 2199023255552 0), (bestV (v6 1099511627776 1099511627776 0 0 0 0) 2199023255552 1), (bestV (v6 1099511627776 1099511627776 0 0 0 0) 2199023255552 2)] == [549755813888, 549755813888, 0]), .v, .v, .c] (.ret []))))
    (by kernel_rfl) hG hE Tryd.func20 (by kernel_rfl) (by kernel_rfl) (Eq.mpr (by kernel_rfl) h)
set_option maxRecDepth 1000000 in
set_option maxHeartbeats 8000000 in
theorem law11_fixed   (w : World) (hg : GN w) (hl : GL w) : Calls Tryd.prog 20 #[] w (fun e w' => e = .returned (.bool true) ∧ Below w.heap.size w w') := by
  refine law11_fixed_plan  w _ (St.refl w) Ex.nil ?_
  refine ⟨(CallV.be fun W hS => gain_Best (v6 1099511627776 1099511627776 0 0 0 0) 2199023255552 (v6_all (p := I64) (by decide) (by decide) (by decide) (by decide) (by decide) (by decide)) (by decide) W (hg.below hS.bl) (hl.below hS.bl)), ?_⟩
  intro r1
  refine ⟨⟨rfl, rfl, rfl, trivial⟩, congrArg Value.bool (by kernel_rfl), rfl, (fun W => eqVec _ _ _ _ _ _ W), trivial, ?_⟩
  exact fun W hS => ⟨congrArg (fun q => Ending.returned (Value.bool q)) (by kernel_rfl), hS.bl⟩

/-- A quotient lies between. -/
theorem evP_mid {x d lo hi : Int} (hd : 0 < d) (h1 : lo * d ≤ x) (h2 : x ≤ hi * d) : lo ≤ evP x d ∧ evP x d ≤ hi := by
  have q1 := Int.le_ediv_of_mul_le hd h1
  have q2 : x / d ≤ hi := Int.ediv_le_of_le_mul hd h2
  have r0 := Int.emod_nonneg x (show d ≠ 0 by omega)
  have e := Int.mul_ediv_add_emod x d
  unfold evP
  split
  · rename_i c
    refine ⟨by omega, ?_⟩
    by_cases q : x / d = hi
    · rw [q, Int.mul_comm] at e; omega
    · omega
  · exact ⟨q1, q2⟩
theorem best_ok {p : Nat → Int} {s : Int} (h : bestE p s = 0) : bestB p s = true ∧ 1 ≤ s ∧ (∀ i, i < 3 → bestV p s i = divZ (p i) s) := by
  cases B : bestB p s
  · rw [(best_no B).1] at h; cases h
  · obtain ⟨f1, f2⟩ := best_yes B
    rw [f1] at h
    have hs : 1 ≤ s := by unfold bestB at B; simp only [Bool.and_eq_true, decide_eq_true_eq] at B; exact B.2.2
    have t : ∀ z, toE z = 0 → toV z = z := fun z q => by
      cases c : fitB z
      · rw [(to_not c).2] at q; cases q
      · exact (to_fit c).1
    by_cases c0 : toE (divZ (p 0) s) = 0
    · by_cases c1 : toE (divZ (p 1) s) = 0
      · have c2 : toE (divZ (p 2) s) = 0 := by simpa [eE, c0, c1] using h
        have K := each_4 c0 c1 c2
        refine ⟨rfl, hs, fun i hi => ?_⟩
        rw [f2, K.2]
        match i, hi with
        | 0, _ => exact t _ c0
        | 1, _ => exact t _ c1
        | 2, _ => exact t _ c2
      · rw [(each_2 (e2 := toE (divZ (p 2) s)) c0 c1).1] at h; exact absurd h c1
    · rw [(each_1 (e1 := toE (divZ (p 1) s)) (e2 := toE (divZ (p 2) s)) c0).1] at h; exact absurd h c0
theorem divZ_pos {x s : Int} (hs : 1 ≤ s) : divZ x s = evP (x * pow2 40) s := by unfold divZ ev; rw [if_neg (by omega)]
theorem mild_ok {p : Nat → Int} {s : Int} (h : bestE p s = 0) (h0 : 0 ≤ p 0) (h1 : p 0 ≤ s) : 0 ≤ bestV p s 0 ∧ bestV p s 0 ≤ 1099511627776 := by
  obtain ⟨_, hs, hv⟩ := best_ok h
  rw [hv 0 (by omega), divZ_pos hs]
  refine evP_mid (by omega) (by rw [Int.zero_mul]; exact Int.mul_nonneg h0 (Int.le_of_lt (pow2_pos 40))) ?_
  rw [pow2_40, Int.mul_comm 1099511627776]
  exact Int.mul_le_mul_of_nonneg_right h1 (by decide)
set_option maxRecDepth 1000000 in
set_option maxHeartbeats 8000000 in
theorem law_GainMild_plan (p : Nat → Int) (n : Int) (w : World) (R : Ending → World → Prop) (hG : St w w [] []) (hE : Ex w [])
    (h : ∀ r1 : Nat, r1 = r1 ∧ (∀ u2 : Int, u2 = (if 144115188075855872 < (p 0) then 144115188075855872 else (p 0)) → (∀ u3 : Int, u3 = (if 0 > u2 then 0 else u2) → ((r1 = r1 ∧ (True)) ∧ r1 = r1 ∧ r1 = r1 ∧ (∀ u4 : Int, u4 = (if 144115188075855872 < n then 144115188075855872 else n) → (∀ u5 : Int, u5 = (if 1 > u4 then 1 else u4) → (Value.int .i64 (IntKind.i64.wrap (u3 + u5)) = .int .i64 (u3 + u5) ∧ CallV Tryd.prog w [(r1, [.int .i64 u3, .int .i64 (p 1), .int .i64 (p 2), .int .i64 (p 3), .int .i64 (p 4), .int .i64 (p 5)])] [] 19 #[.agg #[.int .i64 u3, .int .i64 (p 1), .int .i64 (p 2), .int .i64 (p 3), .int .i64 (p 4), .int .i64 (p 5)], .int .i64 (u3 + u5)] (.tuple #[.agg #[.int .i64 (bestV (v6 u3 (p 1) (p 2) (p 3) (p 4) (p 5)) (u3 + u5) 0), .int .i64 (bestV (v6 u3 (p 1) (p 2) (p 3) (p 4) (p 5)) (u3 + u5) 1), .int .i64 (bestV (v6 u3 (p 1) (p 2) (p 3) (p 4) (p 5)) (u3 + u5) 2)], .int .i64 (bestE (v6 u3 (p 1) (p 2) (p 3) (p 4) (p 5)) (u3 + u5))]) ∧ (∀ r6 : Nat, (r6 = r6 ∧ (r6 = r6 ∧ (r6 = r6 ∧ (True)))) ∧ CallV Tryd.prog w [(r1, [.int .i64 u3, .int .i64 (p 1), .int .i64 (p 2), .int .i64 (p 3), .int .i64 (p 4), .int .i64 (p 5)]), (r6, [.int .i64 (bestV (v6 u3 (p 1) (p 2) (p 3) (p 4) (p 5)) (u3 + u5) 0), .int .i64 (bestV (v6 u3 (p 1) (p 2) (p 3) (p 4) (p 5)) (u3 + u5) 1), .int .i64 (bestV (v6 u3 (p 1) (p 2) (p 3) (p 4) (p 5)) (u3 + u5) 2)])] [] 20 #[] (.bool true) ∧ ((((bestE (v6 u3 (p 1) (p 2) (p 3) (p 4) (p 5)) (u3 + u5)) != 0) = true → (True) ∧ (LeafV R w [(r1, [.int .i64 u3, .int .i64 (p 1), .int .i64 (p 2), .int .i64 (p 3), .int .i64 (p 4), .int .i64 (p 5)]), (r6, [.int .i64 (bestV (v6 u3 (p 1) (p 2) (p 3) (p 4) (p 5)) (u3 + u5) 0), .int .i64 (bestV (v6 u3 (p 1) (p 2) (p 3) (p 4) (p 5)) (u3 + u5) 1), .int .i64 (bestV (v6 u3 (p 1) (p 2) (p 3) (p 4) (p 5)) (u3 + u5) 2)])] [] (.bool true))) ∧ (((bestE (v6 u3 (p 1) (p 2) (p 3) (p 4) (p 5)) (u3 + u5)) != 0) = false → r6 = r6 ∧ CallV Tryd.prog w [(r1, [.int .i64 u3, .int .i64 (p 1), .int .i64 (p 2), .int .i64 (p 3), .int .i64 (p 4), .int .i64 (p 5)]), (r6, [.int .i64 (bestV (v6 u3 (p 1) (p 2) (p 3) (p 4) (p 5)) (u3 + u5) 0), .int .i64 (bestV (v6 u3 (p 1) (p 2) (p 3) (p 4) (p 5)) (u3 + u5) 1), .int .i64 (bestV (v6 u3 (p 1) (p 2) (p 3) (p 4) (p 5)) (u3 + u5) 2)])] [] 21 #[.agg #[.int .i64 (bestV (v6 u3 (p 1) (p 2) (p 3) (p 4) (p 5)) (u3 + u5) 0), .int .i64 (bestV (v6 u3 (p 1) (p 2) (p 3) (p 4) (p 5)) (u3 + u5) 1), .int .i64 (bestV (v6 u3 (p 1) (p 2) (p 3) (p 4) (p 5)) (u3 + u5) 2)]] (.bool (mildB (bestV (v6 u3 (p 1) (p 2) (p 3) (p 4) (p 5)) (u3 + u5)))) ∧ Value.bool (mildB (bestV (v6 u3 (p 1) (p 2) (p 3) (p 4) (p 5)) (u3 + u5))) = .bool true ∧ r6 = r6 ∧ (True) ∧ (LeafV R w [(r1, [.int .i64 u3, .int .i64 (p 1), .int .i64 (p 2), .int .i64 (p 3), .int .i64 (p 4), .int .i64 (p 5)]), (r6, [.int .i64 (bestV (v6 u3 (p 1) (p 2) (p 3) (p 4) (p 5)) (u3 + u5) 0), .int .i64 (bestV (v6 u3 (p 1) (p 2) (p 3) (p 4) (p 5)) (u3 + u5) 1), .int .i64 (bestV (v6 u3 (p 1) (p 2) (p 3) (p 4) (p 5)) (u3 + u5) 2)])] [] (.bool (decide ((bestV (v6 u3 (p 1) (p 2) (p 3) (p 4) (p 5)) (u3 + u5) 0) ≥ 0)))))))))))))) : Calls Tryd.prog 7 #[.agg #[.int .i64 (p 0), .int .i64 (p 1), .int .i64 (p 2), .int .i64 (p 3), .int .i64 (p 4), .int .i64 (p 5)], .int .i64 n] w R :=
  calls_of_plan (f := 7) (es := []) (c := Tryd.f7.body.getD .skip) (tmps := #[.agg #[.int .i64 (p 0), .int .i64 (p 1), .int .i64 (p 2), .int .i64 (p 3), .int .i64 (p 4), .int .i64 (p 5)], .int .i64 n, undef, undef, undef, undef, undef, undef, undef, undef, undef, undef, undef, undef, undef, undef, undef, undef, undef, undef, undef, undef, undef, undef, undef, undef, undef, undef, undef, undef, undef, undef, undef, undef, undef, undef, undef])
    (.s [.c, .c] (.new (fun r1 => .s [.v, .c, .c, .c, .v, .own 0, .v] (.gen 9 (fun u2 => .s [.v] (.gen 10 (fun u3 => .s [.v, .put 0, .c, .c, .c, .own 0, .v, .own 0, .v, .v] (.gen 17 (fun u4 => .s [.v] (.gen 18 (fun u5 => .s [.v, .setv 19 (.int .i64 (u3 + u5)), .call (.tuple #[.agg #[.int .i64 (bestV (v6 u3 (p 1) (p 2) (p 3) (p 4) (p 5)) (u3 + u5) 0), .int .i64 (bestV (v6 u3 (p 1) (p 2) (p 3) (p 4) (p 5)) (u3 + u5) 1), .int .i64 (bestV (v6 u3 (p 1) (p 2) (p 3) (p 4) (p 5)) (u3 + u5) 2)], .int .i64 (bestE (v6 u3 (p 1) (p 2) (p 3) (p 4) (p 5)) (u3 + u5))]), .v, .v, .v] (.new (fun r6 => .s [.put 1, .v, .c, .c, .c, .call (.bool true), .v, .v, .v, .v] (.split 27 (.s [.u, .u, .u, .u, .u, .u, .u, .v, .v, .v, .c] (.ret [])) (.s [.own 1, .call (.bool (mildB (bestV (v6 u3 (p 1) (p 2) (p 3) (p 4) (p 5)) (u3 + u5)))), .v, .setv 30 (.bool true), .v, .own 1, .v, .v, .v, .v, .v, .c] (.ret []))))))))))))))))
    (by kernel_rfl) hG hE Tryd.func7 (by kernel_rfl) (by kernel_rfl) (Eq.mpr (by kernel_rfl) h)
set_option maxRecDepth 1000000 in
set_option maxHeartbeats 8000000 in
theorem law_GainMild (p : Nat → Int) (n : Int) (hp6 : ∀ i, I64 (p i)) (hn : I64 n) (w : World) (hg : GN w) (hl : GL w) : Calls Tryd.prog 7 #[.agg #[.int .i64 (p 0), .int .i64 (p 1), .int .i64 (p 2), .int .i64 (p 3), .int .i64 (p 4), .int .i64 (p 5)], .int .i64 n] w (fun e w' => e = .returned (.bool true) ∧ Below w.heap.size w w') := by
  have z0 := hp6 0; have zn := hn; unfold I64 at z0 zn
  refine law_GainMild_plan p n w _ (St.refl w) Ex.nil ?_
  intro r1
  refine ⟨rfl, ?_⟩
  intro u2 eu2
  rw [minI] at eu2
  intro u3 eu3
  rw [maxI] at eu3
  refine ⟨⟨rfl, trivial⟩, rfl, rfl, ?_⟩
  intro u4 eu4
  rw [minI] at eu4
  intro u5 eu5
  rw [maxI] at eu5
  refine ⟨congrArg (Value.int .i64) (wrapI (by omega)), (CallV.be fun W hS => gain_Best (v6 u3 (p 1) (p 2) (p 3) (p 4) (p 5)) (u3 + u5) (v6_all (p := I64) (by unfold I64; omega) (hp6 1) (hp6 2) (hp6 3) (hp6 4) (hp6 5)) (by unfold I64; omega) W (hg.below hS.bl) (hl.below hS.bl)), ?_⟩
  intro r6
  refine ⟨⟨rfl, rfl, rfl, trivial⟩, (CallV.be fun W hS => law11_fixed W (hg.below hS.bl) (hl.below hS.bl)), ?_⟩
  refine ⟨?_, ?_⟩
  · intro h7
    have h7p : ¬ ((bestE (v6 u3 (p 1) (p 2) (p 3) (p 4) (p 5)) (u3 + u5)) = 0) := by simpa using h7
    refine ⟨trivial, ?_⟩
    exact fun W hS => ⟨rfl, hS.bl⟩
  · intro h8
    have h8p : (bestE (v6 u3 (p 1) (p 2) (p 3) (p 4) (p 5)) (u3 + u5)) = 0 := by simpa using h8
    refine ⟨rfl, (CallV.be fun W hS => gain_Mild (bestV (v6 u3 (p 1) (p 2) (p 3) (p 4) (p 5)) (u3 + u5)) W), congrArg Value.bool (by have M := (mild_ok (p := _) h8p (by simp only [v6]; omega) (by simp only [v6]; omega)); unfold mildB; simp only [Bool.and_eq_true, decide_eq_true_eq]; exact ⟨M.1, M.2⟩), rfl, trivial, ?_⟩
    exact fun W hS => ⟨congrArg (fun q => Ending.returned (Value.bool q)) (decide_eq_true (mild_ok (p := _) h8p (by simp only [v6]; omega) (by simp only [v6]; omega)).1), hS.bl⟩

end Go.Proofs.YtpdggnocnaaanaaDoor
