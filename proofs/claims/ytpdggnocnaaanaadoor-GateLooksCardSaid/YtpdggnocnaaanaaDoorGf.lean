/- Walks of layer 10 (gate), by plans: Look. -/
import Derived.Test.YtpdggnocnaaanaaDoorGb
import Derived.Test.YtpdggnocnaaanaaDoorVc
import Derived.Test.YtpdggnocnaaanaaDoorSg
namespace Go.Proofs.YtpdggnocnaaanaaDoor
open Go.RowKit
set_option linter.unusedSimpArgs false
set_option linter.unusedVariables false
def lookB (x p : Nat → Int) (q n : Int) : Bool := fits6 p && (fits3 x && (fitB q && (fitB n && (decide (1 ≤ n) && decide (0 ≤ p 0)))))
def lookO (x p : Nat → Int) (q n : Int) : Bool := fitB (q - x 0) && fitB (p 0 + n)
def lookE (x p : Nat → Int) (q n : Int) : Int := if lookB x p q n then (if lookO x p q n then 0 else 3) else 1
def lookY (x p : Nat → Int) (q n : Int) : Int := if lookB x p q n && lookO x p q n then q - x 0 else 0
def lookS (x p : Nat → Int) (q n : Int) : Int := if lookB x p q n && lookO x p q n then p 0 + n else 0
theorem look_1 {x p : Nat → Int} {q n : Int} (h : lookB x p q n = false) : lookE x p q n = 1 ∧ lookY x p q n = 0 ∧ lookS x p q n = 0 := by unfold lookE lookY lookS; rw [h]; exact ⟨rfl, rfl, rfl⟩
theorem look_2 {x p : Nat → Int} {q n : Int} (h : lookB x p q n = true) (h2 : lookO x p q n = false) : lookE x p q n = 3 ∧ lookY x p q n = 0 ∧ lookS x p q n = 0 := by unfold lookE lookY lookS; rw [h, h2]; exact ⟨rfl, rfl, rfl⟩
theorem look_3 {x p : Nat → Int} {q n : Int} (h : lookB x p q n = true) (h2 : lookO x p q n = true) : lookE x p q n = 0 ∧ lookY x p q n = q - x 0 ∧ lookS x p q n = p 0 + n := by unfold lookE lookY lookS; rw [h, h2]; exact ⟨rfl, rfl, rfl⟩
theorem add_zeros {p : Nat → Int} : addE p (v6 0 0 0 0 0 0) = if fits6 p then 0 else 1 := by
  have h0 : fits6 (v6 0 0 0 0 0 0) = true := by decide
  unfold addE
  rw [h0, Bool.and_true]
  cases h : fits6 p
  · rfl
  · have e : fits6 (fun j => p j + v6 0 0 0 0 0 0 j) = true := by
      rw [← h]; unfold fits6; simp only [allB, v6, Int.add_zero]
    rw [e]; rfl
theorem add_zeros_ok {p : Nat → Int} (h : addE p (v6 0 0 0 0 0 0) = 0) : fits6 p = true := by
  rw [add_zeros] at h
  cases q : fits6 p
  · rw [q] at h; cases h
  · rfl
theorem add_zeros_no {p : Nat → Int} (h : ¬ addE p (v6 0 0 0 0 0 0) = 0) : fits6 p = false := by
  rw [add_zeros] at h
  cases q : fits6 p
  · rfl
  · rw [q] at h; exact absurd rfl h
theorem fits6_at0 {p : Nat → Int} (h : fits6 p = true) : fitB (p 0) = true := by
  unfold fits6 at h; simp only [allB, Bool.true_and, Bool.and_eq_true] at h; simp only [h]
theorem bo_ok {a b z : Int} (ha : fitB a = true) (hb : fitB b = true) (h : bothE a b z = 0) : bothV a b z = z ∧ fitB z = true := by
  obtain ⟨h1, h2⟩ := both_yes (z := z) ha hb
  rw [h2] at h
  cases q : fitB z
  · rw [(to_not q).2] at h; cases h
  · exact ⟨h1.trans (to_fit q).1, rfl⟩
theorem bo_err {a b z : Int} (ha : fitB a = true) (hb : fitB b = true) (h : ¬ bothE a b z = 0) : bothE a b z = 3 ∧ fitB z = false := by
  obtain ⟨h1, h2⟩ := both_yes (z := z) ha hb
  rw [h2] at h ⊢
  cases q : fitB z
  · exact ⟨(to_not q).2, rfl⟩
  · exact absurd (to_fit q).2 h
set_option maxRecDepth 1000000 in
set_option maxHeartbeats 8000000 in
theorem gate_Look_plan (x p : Nat → Int) (q n : Int) (w : World) (R : Ending → World → Prop) (hG : St w w [] []) (hE : Ex w [])
    (h : ∀ r1 : Nat, ∀ r2 : Nat, r2 = r2 ∧ CallV Tryd.prog w [(r1, [.int .i64 (x 0), .int .i64 (x 1), .int .i64 (x 2)]), (r2, [.int .i64 (p 0), .int .i64 (p 1), .int .i64 (p 2), .int .i64 (p 3), .int .i64 (p 4), .int .i64 (p 5)])] [] 55 #[.agg #[.int .i64 (p 0), .int .i64 (p 1), .int .i64 (p 2), .int .i64 (p 3), .int .i64 (p 4), .int .i64 (p 5)], .agg #[.int .i64 0, .int .i64 0, .int .i64 0, .int .i64 0, .int .i64 0, .int .i64 0]] (.tuple #[.agg #[.int .i64 (addV p (v6 0 0 0 0 0 0) 0), .int .i64 (addV p (v6 0 0 0 0 0 0) 1), .int .i64 (addV p (v6 0 0 0 0 0 0) 2), .int .i64 (addV p (v6 0 0 0 0 0 0) 3), .int .i64 (addV p (v6 0 0 0 0 0 0) 4), .int .i64 (addV p (v6 0 0 0 0 0 0) 5)], .int .i64 (addE p (v6 0 0 0 0 0 0))]) ∧ (∀ r3 : Nat, (r3 = r3 ∧ (r3 = r3 ∧ (r3 = r3 ∧ (r3 = r3 ∧ (r3 = r3 ∧ (r3 = r3 ∧ (True))))))) ∧ ((((addE p (v6 0 0 0 0 0 0)) != 0) = true → (True) ∧ (LeafV R w [(r1, [.int .i64 (x 0), .int .i64 (x 1), .int .i64 (x 2)]), (r2, [.int .i64 (p 0), .int .i64 (p 1), .int .i64 (p 2), .int .i64 (p 3), .int .i64 (p 4), .int .i64 (p 5)]), (r3, [.int .i64 (addV p (v6 0 0 0 0 0 0) 0), .int .i64 (addV p (v6 0 0 0 0 0 0) 1), .int .i64 (addV p (v6 0 0 0 0 0 0) 2), .int .i64 (addV p (v6 0 0 0 0 0 0) 3), .int .i64 (addV p (v6 0 0 0 0 0 0) 4), .int .i64 (addV p (v6 0 0 0 0 0 0) 5)])] [] (.tuple #[.int .i64 0, .int .i64 0, .int .i64 1]))) ∧ (((addE p (v6 0 0 0 0 0 0)) != 0) = false → r1 = r1 ∧ CallV Tryd.prog w [(r1, [.int .i64 (x 0), .int .i64 (x 1), .int .i64 (x 2)]), (r2, [.int .i64 (p 0), .int .i64 (p 1), .int .i64 (p 2), .int .i64 (p 3), .int .i64 (p 4), .int .i64 (p 5)]), (r3, [.int .i64 (addV p (v6 0 0 0 0 0 0) 0), .int .i64 (addV p (v6 0 0 0 0 0 0) 1), .int .i64 (addV p (v6 0 0 0 0 0 0) 2), .int .i64 (addV p (v6 0 0 0 0 0 0) 3), .int .i64 (addV p (v6 0 0 0 0 0 0) 4), .int .i64 (addV p (v6 0 0 0 0 0 0) 5)])] [] 38 #[.agg #[.int .i64 (x 0), .int .i64 (x 1), .int .i64 (x 2)]] (.bool (fits3 x)) ∧ (((!(fits3 x)) = true → (True) ∧ (LeafV R w [(r1, [.int .i64 (x 0), .int .i64 (x 1), .int .i64 (x 2)]), (r2, [.int .i64 (p 0), .int .i64 (p 1), .int .i64 (p 2), .int .i64 (p 3), .int .i64 (p 4), .int .i64 (p 5)]), (r3, [.int .i64 (addV p (v6 0 0 0 0 0 0) 0), .int .i64 (addV p (v6 0 0 0 0 0 0) 1), .int .i64 (addV p (v6 0 0 0 0 0 0) 2), .int .i64 (addV p (v6 0 0 0 0 0 0) 3), .int .i64 (addV p (v6 0 0 0 0 0 0) 4), .int .i64 (addV p (v6 0 0 0 0 0 0) 5)])] [] (.tuple #[.int .i64 0, .int .i64 0, .int .i64 1]))) ∧ ((!(fits3 x)) = false → CallV Tryd.prog w [(r1, [.int .i64 (x 0), .int .i64 (x 1), .int .i64 (x 2)]), (r2, [.int .i64 (p 0), .int .i64 (p 1), .int .i64 (p 2), .int .i64 (p 3), .int .i64 (p 4), .int .i64 (p 5)]), (r3, [.int .i64 (addV p (v6 0 0 0 0 0 0) 0), .int .i64 (addV p (v6 0 0 0 0 0 0) 1), .int .i64 (addV p (v6 0 0 0 0 0 0) 2), .int .i64 (addV p (v6 0 0 0 0 0 0) 3), .int .i64 (addV p (v6 0 0 0 0 0 0) 4), .int .i64 (addV p (v6 0 0 0 0 0 0) 5)])] [] 39 #[.int .i64 q] (.bool (fitB q)) ∧ (((!(fitB q)) = true → (True) ∧ (LeafV R w [(r1, [.int .i64 (x 0), .int .i64 (x 1), .int .i64 (x 2)]), (r2, [.int .i64 (p 0), .int .i64 (p 1), .int .i64 (p 2), .int .i64 (p 3), .int .i64 (p 4), .int .i64 (p 5)]), (r3, [.int .i64 (addV p (v6 0 0 0 0 0 0) 0), .int .i64 (addV p (v6 0 0 0 0 0 0) 1), .int .i64 (addV p (v6 0 0 0 0 0 0) 2), .int .i64 (addV p (v6 0 0 0 0 0 0) 3), .int .i64 (addV p (v6 0 0 0 0 0 0) 4), .int .i64 (addV p (v6 0 0 0 0 0 0) 5)])] [] (.tuple #[.int .i64 0, .int .i64 0, .int .i64 1]))) ∧ ((!(fitB q)) = false → CallV Tryd.prog w [(r1, [.int .i64 (x 0), .int .i64 (x 1), .int .i64 (x 2)]), (r2, [.int .i64 (p 0), .int .i64 (p 1), .int .i64 (p 2), .int .i64 (p 3), .int .i64 (p 4), .int .i64 (p 5)]), (r3, [.int .i64 (addV p (v6 0 0 0 0 0 0) 0), .int .i64 (addV p (v6 0 0 0 0 0 0) 1), .int .i64 (addV p (v6 0 0 0 0 0 0) 2), .int .i64 (addV p (v6 0 0 0 0 0 0) 3), .int .i64 (addV p (v6 0 0 0 0 0 0) 4), .int .i64 (addV p (v6 0 0 0 0 0 0) 5)])] [] 39 #[.int .i64 n] (.bool (fitB n)) ∧ (((!(fitB n)) = true → (True) ∧ (LeafV R w [(r1, [.int .i64 (x 0), .int .i64 (x 1), .int .i64 (x 2)]), (r2, [.int .i64 (p 0), .int .i64 (p 1), .int .i64 (p 2), .int .i64 (p 3), .int .i64 (p 4), .int .i64 (p 5)]), (r3, [.int .i64 (addV p (v6 0 0 0 0 0 0) 0), .int .i64 (addV p (v6 0 0 0 0 0 0) 1), .int .i64 (addV p (v6 0 0 0 0 0 0) 2), .int .i64 (addV p (v6 0 0 0 0 0 0) 3), .int .i64 (addV p (v6 0 0 0 0 0 0) 4), .int .i64 (addV p (v6 0 0 0 0 0 0) 5)])] [] (.tuple #[.int .i64 0, .int .i64 0, .int .i64 1]))) ∧ ((!(fitB n)) = false → ((decide (n < 1)) = true → (True) ∧ (LeafV R w [(r1, [.int .i64 (x 0), .int .i64 (x 1), .int .i64 (x 2)]), (r2, [.int .i64 (p 0), .int .i64 (p 1), .int .i64 (p 2), .int .i64 (p 3), .int .i64 (p 4), .int .i64 (p 5)]), (r3, [.int .i64 (addV p (v6 0 0 0 0 0 0) 0), .int .i64 (addV p (v6 0 0 0 0 0 0) 1), .int .i64 (addV p (v6 0 0 0 0 0 0) 2), .int .i64 (addV p (v6 0 0 0 0 0 0) 3), .int .i64 (addV p (v6 0 0 0 0 0 0) 4), .int .i64 (addV p (v6 0 0 0 0 0 0) 5)])] [] (.tuple #[.int .i64 0, .int .i64 0, .int .i64 1]))) ∧ ((decide (n < 1)) = false → r2 = r2 ∧ (((decide ((p 0) < 0)) = true → (True) ∧ (LeafV R w [(r1, [.int .i64 (x 0), .int .i64 (x 1), .int .i64 (x 2)]), (r2, [.int .i64 (p 0), .int .i64 (p 1), .int .i64 (p 2), .int .i64 (p 3), .int .i64 (p 4), .int .i64 (p 5)]), (r3, [.int .i64 (addV p (v6 0 0 0 0 0 0) 0), .int .i64 (addV p (v6 0 0 0 0 0 0) 1), .int .i64 (addV p (v6 0 0 0 0 0 0) 2), .int .i64 (addV p (v6 0 0 0 0 0 0) 3), .int .i64 (addV p (v6 0 0 0 0 0 0) 4), .int .i64 (addV p (v6 0 0 0 0 0 0) 5)])] [] (.tuple #[.int .i64 0, .int .i64 0, .int .i64 1]))) ∧ ((decide ((p 0) < 0)) = false → r1 = r1 ∧ CallV Tryd.prog w [(r1, [.int .i64 (x 0), .int .i64 (x 1), .int .i64 (x 2)]), (r2, [.int .i64 (p 0), .int .i64 (p 1), .int .i64 (p 2), .int .i64 (p 3), .int .i64 (p 4), .int .i64 (p 5)]), (r3, [.int .i64 (addV p (v6 0 0 0 0 0 0) 0), .int .i64 (addV p (v6 0 0 0 0 0 0) 1), .int .i64 (addV p (v6 0 0 0 0 0 0) 2), .int .i64 (addV p (v6 0 0 0 0 0 0) 3), .int .i64 (addV p (v6 0 0 0 0 0 0) 4), .int .i64 (addV p (v6 0 0 0 0 0 0) 5)])] [] 40 #[.int .i64 q, .int .i64 (x 0)] (.tuple #[.int .i64 (bothV q (x 0) (q - (x 0))), .int .i64 (bothE q (x 0) (q - (x 0)))]) ∧ ((((bothE q (x 0) (q - (x 0))) != 0) = true → (True) ∧ (LeafV R w [(r1, [.int .i64 (x 0), .int .i64 (x 1), .int .i64 (x 2)]), (r2, [.int .i64 (p 0), .int .i64 (p 1), .int .i64 (p 2), .int .i64 (p 3), .int .i64 (p 4), .int .i64 (p 5)]), (r3, [.int .i64 (addV p (v6 0 0 0 0 0 0) 0), .int .i64 (addV p (v6 0 0 0 0 0 0) 1), .int .i64 (addV p (v6 0 0 0 0 0 0) 2), .int .i64 (addV p (v6 0 0 0 0 0 0) 3), .int .i64 (addV p (v6 0 0 0 0 0 0) 4), .int .i64 (addV p (v6 0 0 0 0 0 0) 5)])] [] (.tuple #[.int .i64 0, .int .i64 0, .int .i64 (bothE q (x 0) (q - (x 0)))]))) ∧ (((bothE q (x 0) (q - (x 0))) != 0) = false → r2 = r2 ∧ CallV Tryd.prog w [(r1, [.int .i64 (x 0), .int .i64 (x 1), .int .i64 (x 2)]), (r2, [.int .i64 (p 0), .int .i64 (p 1), .int .i64 (p 2), .int .i64 (p 3), .int .i64 (p 4), .int .i64 (p 5)]), (r3, [.int .i64 (addV p (v6 0 0 0 0 0 0) 0), .int .i64 (addV p (v6 0 0 0 0 0 0) 1), .int .i64 (addV p (v6 0 0 0 0 0 0) 2), .int .i64 (addV p (v6 0 0 0 0 0 0) 3), .int .i64 (addV p (v6 0 0 0 0 0 0) 4), .int .i64 (addV p (v6 0 0 0 0 0 0) 5)])] [] 74 #[.int .i64 (p 0), .int .i64 n] (.tuple #[.int .i64 (bothV (p 0) n ((p 0) + n)), .int .i64 (bothE (p 0) n ((p 0) + n))]) ∧ ((((bothE (p 0) n ((p 0) + n)) != 0) = true → (True) ∧ (LeafV R w [(r1, [.int .i64 (x 0), .int .i64 (x 1), .int .i64 (x 2)]), (r2, [.int .i64 (p 0), .int .i64 (p 1), .int .i64 (p 2), .int .i64 (p 3), .int .i64 (p 4), .int .i64 (p 5)]), (r3, [.int .i64 (addV p (v6 0 0 0 0 0 0) 0), .int .i64 (addV p (v6 0 0 0 0 0 0) 1), .int .i64 (addV p (v6 0 0 0 0 0 0) 2), .int .i64 (addV p (v6 0 0 0 0 0 0) 3), .int .i64 (addV p (v6 0 0 0 0 0 0) 4), .int .i64 (addV p (v6 0 0 0 0 0 0) 5)])] [] (.tuple #[.int .i64 0, .int .i64 0, .int .i64 (bothE (p 0) n ((p 0) + n))]))) ∧ (((bothE (p 0) n ((p 0) + n)) != 0) = false → (True) ∧ (LeafV R w [(r1, [.int .i64 (x 0), .int .i64 (x 1), .int .i64 (x 2)]), (r2, [.int .i64 (p 0), .int .i64 (p 1), .int .i64 (p 2), .int .i64 (p 3), .int .i64 (p 4), .int .i64 (p 5)]), (r3, [.int .i64 (addV p (v6 0 0 0 0 0 0) 0), .int .i64 (addV p (v6 0 0 0 0 0 0) 1), .int .i64 (addV p (v6 0 0 0 0 0 0) 2), .int .i64 (addV p (v6 0 0 0 0 0 0) 3), .int .i64 (addV p (v6 0 0 0 0 0 0) 4), .int .i64 (addV p (v6 0 0 0 0 0 0) 5)])] [] (.tuple #[.int .i64 (bothV q (x 0) (q - (x 0))), .int .i64 (bothV (p 0) n ((p 0) + n)), .int .i64 0]))))))))))))))))))) : Calls Tryd.prog 34 #[.agg #[.int .i64 (x 0), .int .i64 (x 1), .int .i64 (x 2)], .agg #[.int .i64 (p 0), .int .i64 (p 1), .int .i64 (p 2), .int .i64 (p 3), .int .i64 (p 4), .int .i64 (p 5)], .int .i64 q, .int .i64 n] w R :=
  calls_of_plan (f := 34) (es := []) (c := Tryd.f34.body.getD .skip) (tmps := #[.agg #[.int .i64 (x 0), .int .i64 (x 1), .int .i64 (x 2)], .agg #[.int .i64 (p 0), .int .i64 (p 1), .int .i64 (p 2), .int .i64 (p 3), .int .i64 (p 4), .int .i64 (p 5)], .int .i64 q, .int .i64 n, undef, undef, undef, undef, undef, undef, undef, undef, undef, undef, undef, undef, undef, undef, undef, undef, undef, undef, undef, undef, undef, undef, undef, undef, undef, undef, undef, undef, undef, undef, undef, undef, undef, undef, undef, undef, undef, undef, undef, undef, undef, undef, undef, undef, undef, undef, undef, undef, undef, undef, undef, undef, undef, undef, undef, undef, undef, undef, undef, undef, undef, undef, undef, undef, undef])
    (.s [.c, .c] (.new (fun r1 => .new (fun r2 => .s [.v, .v, .v, .c, .c, .c, .own 1, .v, .call (.tuple #[.agg #[.int .i64 (addV p (v6 0 0 0 0 0 0) 0), .int .i64 (addV p (v6 0 0 0 0 0 0) 1), .int .i64 (addV p (v6 0 0 0 0 0 0) 2), .int .i64 (addV p (v6 0 0 0 0 0 0) 3), .int .i64 (addV p (v6 0 0 0 0 0 0) 4), .int .i64 (addV p (v6 0 0 0 0 0 0) 5)], .int .i64 (addE p (v6 0 0 0 0 0 0))]), .v, .v, .v] (.new (fun r3 => .s [.put 2, .v, .c, .c, .c, .c, .v, .v, .v] (.split 23 (.s [.u, .u, .u, .v, .v, .u, .u, .u, .v, .v, .u, .u, .u, .v, .v, .u, .u, .v, .v, .u, .u, .u, .v, .c, .c, .c, .c, .v, .v, .v, .c] (.ret [])) (.s [.own 0, .call (.bool (fits3 x)), .v, .v, .v] (.split 28 (.s [.u, .u, .u, .v, .v, .u, .u, .u, .v, .v, .u, .u, .v, .v, .u, .u, .u, .v, .c, .c, .c, .c, .v, .v, .v, .c] (.ret [])) (.s [.v, .call (.bool (fitB q)), .v, .v, .v] (.split 33 (.s [.u, .u, .u, .v, .v, .u, .u, .v, .v, .u, .u, .u, .v, .c, .c, .c, .c, .v, .v, .v, .c] (.ret [])) (.s [.v, .call (.bool (fitB n)), .v, .v, .v] (.split 38 (.s [.u, .u, .v, .v, .u, .u, .u, .v, .c, .c, .c, .c, .v, .v, .v, .c] (.ret [])) (.s [.v, .v, .v, .v] (.split 42 (.s [.u, .u, .u, .v, .c, .c, .c, .c, .v, .v, .v, .c] (.ret [])) (.s [.v, .own 1, .v, .v, .c] (.split 46 (.s [.c, .c, .c, .v, .v, .v, .c] (.ret [])) (.s [.c, .c, .c, .c, .v, .v, .own 0, .call (.tuple #[.int .i64 (bothV q (x 0) (q - (x 0))), .int .i64 (bothE q (x 0) (q - (x 0)))]), .v, .v, .v, .v, .v, .c, .c, .c, .c, .v, .v, .c] (.split 55 (.s [.c, .c, .c, .v, .v, .v, .v, .c] (.ret [])) (.s [.c, .c, .c, .c, .v, .own 1, .v, .call (.tuple #[.int .i64 (bothV (p 0) n ((p 0) + n)), .int .i64 (bothE (p 0) n ((p 0) + n))]), .v, .v, .v, .v, .v, .c, .c, .c, .c, .v, .v, .c] (.split 65 (.s [.c, .c, .c, .v, .v, .v, .v, .c] (.ret [])) (.s [.c, .c, .c, .c, .v, .v, .v, .v, .v, .c] (.ret [])))))))))))))))))))))))
    (by kernel_rfl) hG hE Tryd.func34 (by kernel_rfl) (by kernel_rfl) (Eq.mpr (by kernel_rfl) h)
set_option maxRecDepth 1000000 in
set_option maxHeartbeats 8000000 in
theorem gate_Look (x p : Nat → Int) (q n : Int) (hx : ∀ i, I64 (x i)) (hp6 : ∀ i, I64 (p i)) (hq : I64 q) (hn : I64 n) (w : World)  : Calls Tryd.prog 34 #[.agg #[.int .i64 (x 0), .int .i64 (x 1), .int .i64 (x 2)], .agg #[.int .i64 (p 0), .int .i64 (p 1), .int .i64 (p 2), .int .i64 (p 3), .int .i64 (p 4), .int .i64 (p 5)], .int .i64 q, .int .i64 n] w (fun e w' => e = .returned (.tuple #[.int .i64 (lookY x p q n), .int .i64 (lookS x p q n), .int .i64 (lookE x p q n)]) ∧ Below w.heap.size w w') := by
  refine gate_Look_plan x p q n w _ (St.refl w) Ex.nil ?_
  intro r1
  intro r2
  refine ⟨rfl, (CallV.be fun W hS => sym_Add p (v6 0 0 0 0 0 0) W), ?_⟩
  intro r3
  refine ⟨⟨rfl, rfl, rfl, rfl, rfl, rfl, trivial⟩, ?_⟩
  refine ⟨?_, ?_⟩
  · intro h4
    have h4p : ¬ ((addE p (v6 0 0 0 0 0 0)) = 0) := by simpa using h4
    have F6 := add_zeros_no h4p
    refine ⟨trivial, ?_⟩
    have F := look_1 (x := x) (p := p) (q := q) (n := n) (by unfold lookB; simp [F6])
    exact fun W hS => ⟨by rw [F.1, F.2.1, F.2.2], hS.bl⟩
  · intro h5
    have h5p : (addE p (v6 0 0 0 0 0 0)) = 0 := by simpa using h5
    have F6 := add_zeros_ok h5p
    refine ⟨rfl, (CallV.be fun W hS => vec_Fits x hx W), ?_⟩
    refine ⟨?_, ?_⟩
    · intro h60
      have h6 : (fits3 x) = false := by simpa using h60
      refine ⟨trivial, ?_⟩
      have F := look_1 (x := x) (p := p) (q := q) (n := n) (by unfold lookB; simp [h6])
      exact fun W hS => ⟨by rw [F.1, F.2.1, F.2.2], hS.bl⟩
    · intro h70
      have h7 : (fits3 x) = true := by simpa using h70
      refine ⟨(CallV.of fun W hS => fix_Fits q  W ), ?_⟩
      refine ⟨?_, ?_⟩
      · intro h80
        have h8 : (fitB q) = false := by simpa using h80
        refine ⟨trivial, ?_⟩
        have F := look_1 (x := x) (p := p) (q := q) (n := n) (by unfold lookB; simp [h8])
        exact fun W hS => ⟨by rw [F.1, F.2.1, F.2.2], hS.bl⟩
      · intro h90
        have h9 : (fitB q) = true := by simpa using h90
        refine ⟨(CallV.of fun W hS => fix_Fits n  W ), ?_⟩
        refine ⟨?_, ?_⟩
        · intro h100
          have h10 : (fitB n) = false := by simpa using h100
          refine ⟨trivial, ?_⟩
          have F := look_1 (x := x) (p := p) (q := q) (n := n) (by unfold lookB; simp [h10])
          exact fun W hS => ⟨by rw [F.1, F.2.1, F.2.2], hS.bl⟩
        · intro h110
          have h11 : (fitB n) = true := by simpa using h110
          refine ⟨?_, ?_⟩
          · intro h12
            have h12p : n < 1 := by simpa using h12
            refine ⟨trivial, ?_⟩
            have z : ¬ 1 ≤ n := by omega
            have F := look_1 (x := x) (p := p) (q := q) (n := n) (by unfold lookB; simp [z])
            exact fun W hS => ⟨by rw [F.1, F.2.1, F.2.2], hS.bl⟩
          · intro h13
            have h13p : ¬ (n < 1) := by simpa using h13
            refine ⟨rfl, ?_⟩
            refine ⟨?_, ?_⟩
            · intro h14
              have h14p : (p 0) < 0 := by simpa using h14
              refine ⟨trivial, ?_⟩
              have z : ¬ 0 ≤ p 0 := by omega
              have F := look_1 (x := x) (p := p) (q := q) (n := n) (by unfold lookB; simp [z])
              exact fun W hS => ⟨by rw [F.1, F.2.1, F.2.2], hS.bl⟩
            · intro h15
              have h15p : ¬ ((p 0) < 0) := by simpa using h15
              refine ⟨rfl, (CallV.be fun W hS => fix_Sub q (x 0)  W ), ?_⟩
              refine ⟨?_, ?_⟩
              · intro h16
                have h16p : ¬ ((bothE q (x 0) (q - (x 0))) = 0) := by simpa using h16
                refine ⟨trivial, ?_⟩
                have B : lookB x p q n = true := by unfold lookB; rw [F6, h7, h9, h11, decide_eq_true (show 1 ≤ n by omega), decide_eq_true (show 0 ≤ p 0 by omega)]; rfl
                have G := bo_err (z := q - x 0) h9 (fits3_at h7).1 h16p
                have F := look_2 B (by unfold lookO; rw [G.2]; rfl)
                exact fun W hS => ⟨by rw [G.1, F.1, F.2.1, F.2.2], hS.bl⟩
              · intro h17
                have h17p : (bothE q (x 0) (q - (x 0))) = 0 := by simpa using h17
                refine ⟨rfl, (CallV.be fun W hS => fix_Add (p 0) n  W ), ?_⟩
                refine ⟨?_, ?_⟩
                · intro h18
                  have h18p : ¬ ((bothE (p 0) n ((p 0) + n)) = 0) := by simpa using h18
                  refine ⟨trivial, ?_⟩
                  have B : lookB x p q n = true := by unfold lookB; rw [F6, h7, h9, h11, decide_eq_true (show 1 ≤ n by omega), decide_eq_true (show 0 ≤ p 0 by omega)]; rfl
                  have G := bo_ok (z := q - x 0) h9 (fits3_at h7).1 h17p
                  have G2 := bo_err (z := p 0 + n) (fits6_at0 F6) h11 h18p
                  have F := look_2 B (by unfold lookO; rw [G2.2, Bool.and_false])
                  exact fun W hS => ⟨by rw [G2.1, F.1, F.2.1, F.2.2], hS.bl⟩
                · intro h19
                  have h19p : (bothE (p 0) n ((p 0) + n)) = 0 := by simpa using h19
                  refine ⟨trivial, ?_⟩
                  have B : lookB x p q n = true := by unfold lookB; rw [F6, h7, h9, h11, decide_eq_true (show 1 ≤ n by omega), decide_eq_true (show 0 ≤ p 0 by omega)]; rfl
                  have G := bo_ok (z := q - x 0) h9 (fits3_at h7).1 h17p
                  have G2 := bo_ok (z := p 0 + n) (fits6_at0 F6) h11 h19p
                  have F := look_3 B (by unfold lookO; rw [G.2, G2.2]; rfl)
                  exact fun W hS => ⟨by rw [G.1, G2.1, F.1, F.2.1, F.2.2], hS.bl⟩
set_option maxRecDepth 1000000 in
set_option maxHeartbeats 8000000 in
theorem ref10_Look_plan (x p : Nat → Int) (q n : Int) (w : World) (R : Ending → World → Prop) (hG : St w w [] []) (hE : Ex w [])
    (h : ∀ r1 : Nat, ∀ r2 : Nat, r1 = r1 ∧ CallV Tryd.prog w [(r1, [.int .i64 (x 0), .int .i64 (x 1), .int .i64 (x 2)]), (r2, [.int .i64 (p 0), .int .i64 (p 1), .int .i64 (p 2), .int .i64 (p 3), .int .i64 (p 4), .int .i64 (p 5)])] [] 45 #[.agg #[.int .i64 (x 0), .int .i64 (x 1), .int .i64 (x 2)]] (.bool (fits3 x)) ∧ (((!(fits3 x)) = true → (True) ∧ (LeafV R w [(r1, [.int .i64 (x 0), .int .i64 (x 1), .int .i64 (x 2)]), (r2, [.int .i64 (p 0), .int .i64 (p 1), .int .i64 (p 2), .int .i64 (p 3), .int .i64 (p 4), .int .i64 (p 5)])] [] (.tuple #[.int .i64 0, .int .i64 0, .int .i64 1]))) ∧ ((!(fits3 x)) = false → r2 = r2 ∧ CallV Tryd.prog w [(r1, [.int .i64 (x 0), .int .i64 (x 1), .int .i64 (x 2)]), (r2, [.int .i64 (p 0), .int .i64 (p 1), .int .i64 (p 2), .int .i64 (p 3), .int .i64 (p 4), .int .i64 (p 5)])] [] 25 #[.agg #[.int .i64 (p 0), .int .i64 (p 1), .int .i64 (p 2), .int .i64 (p 3), .int .i64 (p 4), .int .i64 (p 5)]] (.bool (fits6 p)) ∧ (((!(fits6 p)) = true → (True) ∧ (LeafV R w [(r1, [.int .i64 (x 0), .int .i64 (x 1), .int .i64 (x 2)]), (r2, [.int .i64 (p 0), .int .i64 (p 1), .int .i64 (p 2), .int .i64 (p 3), .int .i64 (p 4), .int .i64 (p 5)])] [] (.tuple #[.int .i64 0, .int .i64 0, .int .i64 1]))) ∧ ((!(fits6 p)) = false → CallV Tryd.prog w [(r1, [.int .i64 (x 0), .int .i64 (x 1), .int .i64 (x 2)]), (r2, [.int .i64 (p 0), .int .i64 (p 1), .int .i64 (p 2), .int .i64 (p 3), .int .i64 (p 4), .int .i64 (p 5)])] [] 46 #[.int .i64 q] (.bool (fitB q)) ∧ (((!(fitB q)) = true → (True) ∧ (LeafV R w [(r1, [.int .i64 (x 0), .int .i64 (x 1), .int .i64 (x 2)]), (r2, [.int .i64 (p 0), .int .i64 (p 1), .int .i64 (p 2), .int .i64 (p 3), .int .i64 (p 4), .int .i64 (p 5)])] [] (.tuple #[.int .i64 0, .int .i64 0, .int .i64 1]))) ∧ ((!(fitB q)) = false → CallV Tryd.prog w [(r1, [.int .i64 (x 0), .int .i64 (x 1), .int .i64 (x 2)]), (r2, [.int .i64 (p 0), .int .i64 (p 1), .int .i64 (p 2), .int .i64 (p 3), .int .i64 (p 4), .int .i64 (p 5)])] [] 46 #[.int .i64 n] (.bool (fitB n)) ∧ (((!(fitB n)) = true → (True) ∧ (LeafV R w [(r1, [.int .i64 (x 0), .int .i64 (x 1), .int .i64 (x 2)]), (r2, [.int .i64 (p 0), .int .i64 (p 1), .int .i64 (p 2), .int .i64 (p 3), .int .i64 (p 4), .int .i64 (p 5)])] [] (.tuple #[.int .i64 0, .int .i64 0, .int .i64 1]))) ∧ ((!(fitB n)) = false → ((decide (n < 1)) = true → (True) ∧ (LeafV R w [(r1, [.int .i64 (x 0), .int .i64 (x 1), .int .i64 (x 2)]), (r2, [.int .i64 (p 0), .int .i64 (p 1), .int .i64 (p 2), .int .i64 (p 3), .int .i64 (p 4), .int .i64 (p 5)])] [] (.tuple #[.int .i64 0, .int .i64 0, .int .i64 1]))) ∧ ((decide (n < 1)) = false → r2 = r2 ∧ (((decide ((p 0) < 0)) = true → (True) ∧ (LeafV R w [(r1, [.int .i64 (x 0), .int .i64 (x 1), .int .i64 (x 2)]), (r2, [.int .i64 (p 0), .int .i64 (p 1), .int .i64 (p 2), .int .i64 (p 3), .int .i64 (p 4), .int .i64 (p 5)])] [] (.tuple #[.int .i64 0, .int .i64 0, .int .i64 1]))) ∧ ((decide ((p 0) < 0)) = false → r1 = r1 ∧ CallV Tryd.prog w [(r1, [.int .i64 (x 0), .int .i64 (x 1), .int .i64 (x 2)]), (r2, [.int .i64 (p 0), .int .i64 (p 1), .int .i64 (p 2), .int .i64 (p 3), .int .i64 (p 4), .int .i64 (p 5)])] [] 47 #[.int .i64 q, .int .i64 (x 0)] (.tuple #[.int .i64 (bothV q (x 0) (q - (x 0))), .int .i64 (bothE q (x 0) (q - (x 0)))]) ∧ r2 = r2 ∧ CallV Tryd.prog w [(r1, [.int .i64 (x 0), .int .i64 (x 1), .int .i64 (x 2)]), (r2, [.int .i64 (p 0), .int .i64 (p 1), .int .i64 (p 2), .int .i64 (p 3), .int .i64 (p 4), .int .i64 (p 5)])] [] 75 #[.int .i64 (p 0), .int .i64 n] (.tuple #[.int .i64 (bothV (p 0) n ((p 0) + n)), .int .i64 (bothE (p 0) n ((p 0) + n))]) ∧ ((((bothE q (x 0) (q - (x 0))) != 0) = true → (True) ∧ (LeafV R w [(r1, [.int .i64 (x 0), .int .i64 (x 1), .int .i64 (x 2)]), (r2, [.int .i64 (p 0), .int .i64 (p 1), .int .i64 (p 2), .int .i64 (p 3), .int .i64 (p 4), .int .i64 (p 5)])] [] (.tuple #[.int .i64 0, .int .i64 0, .int .i64 3]))) ∧ (((bothE q (x 0) (q - (x 0))) != 0) = false → (((bothE (p 0) n ((p 0) + n)) != 0) = true → (True) ∧ (LeafV R w [(r1, [.int .i64 (x 0), .int .i64 (x 1), .int .i64 (x 2)]), (r2, [.int .i64 (p 0), .int .i64 (p 1), .int .i64 (p 2), .int .i64 (p 3), .int .i64 (p 4), .int .i64 (p 5)])] [] (.tuple #[.int .i64 0, .int .i64 0, .int .i64 3]))) ∧ (((bothE (p 0) n ((p 0) + n)) != 0) = false → (True) ∧ (LeafV R w [(r1, [.int .i64 (x 0), .int .i64 (x 1), .int .i64 (x 2)]), (r2, [.int .i64 (p 0), .int .i64 (p 1), .int .i64 (p 2), .int .i64 (p 3), .int .i64 (p 4), .int .i64 (p 5)])] [] (.tuple #[.int .i64 (bothV q (x 0) (q - (x 0))), .int .i64 (bothV (p 0) n ((p 0) + n)), .int .i64 0]))))))))))))))))) : Calls Tryd.prog 35 #[.agg #[.int .i64 (x 0), .int .i64 (x 1), .int .i64 (x 2)], .agg #[.int .i64 (p 0), .int .i64 (p 1), .int .i64 (p 2), .int .i64 (p 3), .int .i64 (p 4), .int .i64 (p 5)], .int .i64 q, .int .i64 n] w R :=
  calls_of_plan (f := 35) (es := []) (c := Tryd.f35.body.getD .skip) (tmps := #[.agg #[.int .i64 (x 0), .int .i64 (x 1), .int .i64 (x 2)], .agg #[.int .i64 (p 0), .int .i64 (p 1), .int .i64 (p 2), .int .i64 (p 3), .int .i64 (p 4), .int .i64 (p 5)], .int .i64 q, .int .i64 n, undef, undef, undef, undef, undef, undef, undef, undef, undef, undef, undef, undef, undef, undef, undef, undef, undef, undef, undef, undef, undef, undef, undef, undef, undef, undef, undef, undef, undef, undef, undef, undef, undef, undef, undef, undef, undef, undef, undef, undef, undef, undef, undef, undef, undef, undef, undef, undef, undef, undef, undef, undef, undef, undef, undef, undef, undef, undef, undef, undef])
    (.s [.c, .c] (.new (fun r1 => .new (fun r2 => .s [.v, .v, .v, .c, .c, .c, .c, .own 0, .call (.bool (fits3 x)), .v, .v] (.split 18 (.s [.u, .u, .u, .v, .v, .u, .u, .u, .v, .v, .u, .u, .u, .v, .v, .u, .u, .v, .v, .u, .u, .u, .v, .c, .c, .c, .c, .v, .v, .v, .c] (.ret [])) (.s [.own 1, .call (.bool (fits6 p)), .v, .v, .v] (.split 23 (.s [.u, .u, .u, .v, .v, .u, .u, .u, .v, .v, .u, .u, .v, .v, .u, .u, .u, .v, .c, .c, .c, .c, .v, .v, .v, .c] (.ret [])) (.s [.v, .call (.bool (fitB q)), .v, .v, .v] (.split 28 (.s [.u, .u, .u, .v, .v, .u, .u, .v, .v, .u, .u, .u, .v, .c, .c, .c, .c, .v, .v, .v, .c] (.ret [])) (.s [.v, .call (.bool (fitB n)), .v, .v, .v] (.split 33 (.s [.u, .u, .v, .v, .u, .u, .u, .v, .c, .c, .c, .c, .v, .v, .v, .c] (.ret [])) (.s [.v, .v, .v, .v] (.split 37 (.s [.u, .u, .u, .v, .c, .c, .c, .c, .v, .v, .v, .c] (.ret [])) (.s [.v, .own 1, .v, .v, .c] (.split 41 (.s [.c, .c, .c, .v, .v, .v, .c] (.ret [])) (.s [.c, .c, .c, .c, .v, .v, .own 0, .call (.tuple #[.int .i64 (bothV q (x 0) (q - (x 0))), .int .i64 (bothE q (x 0) (q - (x 0)))]), .v, .v, .v, .v, .v, .c, .c, .c, .v, .own 1, .v, .call (.tuple #[.int .i64 (bothV (p 0) n ((p 0) + n)), .int .i64 (bothE (p 0) n ((p 0) + n))]), .v, .v, .v, .v, .v, .c, .c, .c, .c, .v, .v, .v] (.split 58 (.s [.u, .u, .v, .c, .c, .c, .c, .v, .v, .v, .c] (.ret [])) (.s [.v, .v, .v, .c] (.split 61 (.s [.c, .c, .c, .v, .v, .v, .c] (.ret [])) (.s [.c, .c, .c, .c, .v, .v, .v, .v, .v, .c] (.ret [])))))))))))))))))))))
    (by kernel_rfl) hG hE Tryd.func35 (by kernel_rfl) (by kernel_rfl) (Eq.mpr (by kernel_rfl) h)
set_option maxRecDepth 1000000 in
set_option maxHeartbeats 8000000 in
theorem ref10_Look (x p : Nat → Int) (q n : Int) (hx : ∀ i, I64 (x i)) (hp6 : ∀ i, I64 (p i)) (hq : I64 q) (hn : I64 n) (w : World)  : Calls Tryd.prog 35 #[.agg #[.int .i64 (x 0), .int .i64 (x 1), .int .i64 (x 2)], .agg #[.int .i64 (p 0), .int .i64 (p 1), .int .i64 (p 2), .int .i64 (p 3), .int .i64 (p 4), .int .i64 (p 5)], .int .i64 q, .int .i64 n] w (fun e w' => e = .returned (.tuple #[.int .i64 (lookY x p q n), .int .i64 (lookS x p q n), .int .i64 (lookE x p q n)]) ∧ Below w.heap.size w w') := by
  refine ref10_Look_plan x p q n w _ (St.refl w) Ex.nil ?_
  intro r1
  intro r2
  refine ⟨rfl, (CallV.be fun W hS => ref4_Fits x W), ?_⟩
  refine ⟨?_, ?_⟩
  · intro h30
    have h3 : (fits3 x) = false := by simpa using h30
    refine ⟨trivial, ?_⟩
    have F := look_1 (x := x) (p := p) (q := q) (n := n) (by unfold lookB; simp [h3])
    exact fun W hS => ⟨by rw [F.1, F.2.1, F.2.2], hS.bl⟩
  · intro h40
    have h4 : (fits3 x) = true := by simpa using h40
    refine ⟨rfl, (CallV.be fun W hS => ref5_Fits p W), ?_⟩
    refine ⟨?_, ?_⟩
    · intro h50
      have h5 : (fits6 p) = false := by simpa using h50
      have F6 := h5
      refine ⟨trivial, ?_⟩
      have F := look_1 (x := x) (p := p) (q := q) (n := n) (by unfold lookB; simp [F6])
      exact fun W hS => ⟨by rw [F.1, F.2.1, F.2.2], hS.bl⟩
    · intro h60
      have h6 : (fits6 p) = true := by simpa using h60
      have F6 := h6
      refine ⟨(CallV.of fun W hS => ref2_Fits q  W ), ?_⟩
      refine ⟨?_, ?_⟩
      · intro h70
        have h7 : (fitB q) = false := by simpa using h70
        refine ⟨trivial, ?_⟩
        have F := look_1 (x := x) (p := p) (q := q) (n := n) (by unfold lookB; simp [h7])
        exact fun W hS => ⟨by rw [F.1, F.2.1, F.2.2], hS.bl⟩
      · intro h80
        have h8 : (fitB q) = true := by simpa using h80
        refine ⟨(CallV.of fun W hS => ref2_Fits n  W ), ?_⟩
        refine ⟨?_, ?_⟩
        · intro h90
          have h9 : (fitB n) = false := by simpa using h90
          refine ⟨trivial, ?_⟩
          have F := look_1 (x := x) (p := p) (q := q) (n := n) (by unfold lookB; simp [h9])
          exact fun W hS => ⟨by rw [F.1, F.2.1, F.2.2], hS.bl⟩
        · intro h100
          have h10 : (fitB n) = true := by simpa using h100
          refine ⟨?_, ?_⟩
          · intro h11
            have h11p : n < 1 := by simpa using h11
            refine ⟨trivial, ?_⟩
            have z : ¬ 1 ≤ n := by omega
            have F := look_1 (x := x) (p := p) (q := q) (n := n) (by unfold lookB; simp [z])
            exact fun W hS => ⟨by rw [F.1, F.2.1, F.2.2], hS.bl⟩
          · intro h12
            have h12p : ¬ (n < 1) := by simpa using h12
            refine ⟨rfl, ?_⟩
            refine ⟨?_, ?_⟩
            · intro h13
              have h13p : (p 0) < 0 := by simpa using h13
              refine ⟨trivial, ?_⟩
              have z : ¬ 0 ≤ p 0 := by omega
              have F := look_1 (x := x) (p := p) (q := q) (n := n) (by unfold lookB; simp [z])
              exact fun W hS => ⟨by rw [F.1, F.2.1, F.2.2], hS.bl⟩
            · intro h14
              have h14p : ¬ ((p 0) < 0) := by simpa using h14
              refine ⟨rfl, (CallV.be fun W hS => ref2_Sub q (x 0)  W ), rfl, (CallV.be fun W hS => ref2_Add (p 0) n  W ), ?_⟩
              refine ⟨?_, ?_⟩
              · intro h15
                have h15p : ¬ ((bothE q (x 0) (q - (x 0))) = 0) := by simpa using h15
                refine ⟨trivial, ?_⟩
                have B : lookB x p q n = true := by unfold lookB; rw [F6, h4, h8, h10, decide_eq_true (show 1 ≤ n by omega), decide_eq_true (show 0 ≤ p 0 by omega)]; rfl
                have G := bo_err (z := q - x 0) h8 (fits3_at h4).1 h15p
                have F := look_2 B (by unfold lookO; rw [G.2]; rfl)
                exact fun W hS => ⟨by rw [F.1, F.2.1, F.2.2], hS.bl⟩
              · intro h16
                have h16p : (bothE q (x 0) (q - (x 0))) = 0 := by simpa using h16
                refine ⟨?_, ?_⟩
                · intro h17
                  have h17p : ¬ ((bothE (p 0) n ((p 0) + n)) = 0) := by simpa using h17
                  refine ⟨trivial, ?_⟩
                  have B : lookB x p q n = true := by unfold lookB; rw [F6, h4, h8, h10, decide_eq_true (show 1 ≤ n by omega), decide_eq_true (show 0 ≤ p 0 by omega)]; rfl
                  have G := bo_ok (z := q - x 0) h8 (fits3_at h4).1 h16p
                  have G2 := bo_err (z := p 0 + n) (fits6_at0 F6) h10 h17p
                  have F := look_2 B (by unfold lookO; rw [G2.2, Bool.and_false])
                  exact fun W hS => ⟨by rw [F.1, F.2.1, F.2.2], hS.bl⟩
                · intro h18
                  have h18p : (bothE (p 0) n ((p 0) + n)) = 0 := by simpa using h18
                  refine ⟨trivial, ?_⟩
                  have B : lookB x p q n = true := by unfold lookB; rw [F6, h4, h8, h10, decide_eq_true (show 1 ≤ n by omega), decide_eq_true (show 0 ≤ p 0 by omega)]; rfl
                  have G := bo_ok (z := q - x 0) h8 (fits3_at h4).1 h16p
                  have G2 := bo_ok (z := p 0 + n) (fits6_at0 F6) h10 h18p
                  have F := look_3 B (by unfold lookO; rw [G.2, G2.2]; rfl)
                  exact fun W hS => ⟨by rw [G.1, G2.1, F.1, F.2.1, F.2.2], hS.bl⟩
set_option maxRecDepth 1000000 in
set_option maxHeartbeats 8000000 in
theorem law_GateLooks_plan (x p : Nat → Int) (q n : Int) (w : World) (R : Ending → World → Prop) (hG : St w w [] []) (hE : Ex w [])
    (h : ∀ r1 : Nat, ∀ r2 : Nat, ∀ r3 : Nat, r1 = r1 ∧ r2 = r2 ∧ r3 = r3 ∧ r3 = r3 ∧ CallV Tryd.prog w [(r1, [.int .i64 (x 0), .int .i64 (x 1), .int .i64 (x 2)]), (r2, [.int .i64 (p 0), .int .i64 (p 1), .int .i64 (p 2), .int .i64 (p 3), .int .i64 (p 4), .int .i64 (p 5)]), (r3, [.int .i64 q, .int .i64 n])] [] 34 #[.agg #[.int .i64 (x 0), .int .i64 (x 1), .int .i64 (x 2)], .agg #[.int .i64 (p 0), .int .i64 (p 1), .int .i64 (p 2), .int .i64 (p 3), .int .i64 (p 4), .int .i64 (p 5)], .int .i64 q, .int .i64 n] (.tuple #[.int .i64 (lookY x p q n), .int .i64 (lookS x p q n), .int .i64 (lookE x p q n)]) ∧ r1 = r1 ∧ r2 = r2 ∧ r3 = r3 ∧ r3 = r3 ∧ CallV Tryd.prog w [(r1, [.int .i64 (x 0), .int .i64 (x 1), .int .i64 (x 2)]), (r2, [.int .i64 (p 0), .int .i64 (p 1), .int .i64 (p 2), .int .i64 (p 3), .int .i64 (p 4), .int .i64 (p 5)]), (r3, [.int .i64 q, .int .i64 n])] [] 35 #[.agg #[.int .i64 (x 0), .int .i64 (x 1), .int .i64 (x 2)], .agg #[.int .i64 (p 0), .int .i64 (p 1), .int .i64 (p 2), .int .i64 (p 3), .int .i64 (p 4), .int .i64 (p 5)], .int .i64 q, .int .i64 n] (.tuple #[.int .i64 (lookY x p q n), .int .i64 (lookS x p q n), .int .i64 (lookE x p q n)]) ∧ CallV Tryd.prog w [(r1, [.int .i64 (x 0), .int .i64 (x 1), .int .i64 (x 2)]), (r2, [.int .i64 (p 0), .int .i64 (p 1), .int .i64 (p 2), .int .i64 (p 3), .int .i64 (p 4), .int .i64 (p 5)]), (r3, [.int .i64 q, .int .i64 n])] [] 36 #[] (.bool true) ∧ Value.bool ((lookY x p q n) == (lookY x p q n)) = .bool true ∧ Value.bool ((lookS x p q n) == (lookS x p q n)) = .bool true ∧ Value.bool ((lookE x p q n) == (lookE x p q n)) = .bool true ∧ (True) ∧ (LeafV R w [(r1, [.int .i64 (x 0), .int .i64 (x 1), .int .i64 (x 2)]), (r2, [.int .i64 (p 0), .int .i64 (p 1), .int .i64 (p 2), .int .i64 (p 3), .int .i64 (p 4), .int .i64 (p 5)]), (r3, [.int .i64 q, .int .i64 n])] [] (.bool true))) : Calls Tryd.prog 12 #[.agg #[.int .i64 (x 0), .int .i64 (x 1), .int .i64 (x 2)], .agg #[.int .i64 (p 0), .int .i64 (p 1), .int .i64 (p 2), .int .i64 (p 3), .int .i64 (p 4), .int .i64 (p 5)], .agg #[.int .i64 q, .int .i64 n]] w R :=
  calls_of_plan (f := 12) (es := []) (c := Tryd.f12.body.getD .skip) (tmps := #[.agg #[.int .i64 (x 0), .int .i64 (x 1), .int .i64 (x 2)], .agg #[.int .i64 (p 0), .int .i64 (p 1), .int .i64 (p 2), .int .i64 (p 3), .int .i64 (p 4), .int .i64 (p 5)], .agg #[.int .i64 q, .int .i64 n], undef, undef, undef, undef, undef, undef, undef, undef, undef, undef, undef, undef, undef, undef, undef, undef, undef, undef, undef, undef, undef, undef, undef, undef, undef, undef, undef, undef, undef, undef, undef, undef, undef, undef, undef, undef, undef, undef, undef, undef, undef, undef, undef, undef, undef, undef, undef, undef])
    (.s [.c, .c] (.new (fun r1 => .new (fun r2 => .new (fun r3 => .s [.v, .c, .c, .c, .own 0, .own 1, .v, .own 2, .v, .own 2, .call (.tuple #[.int .i64 (lookY x p q n), .int .i64 (lookS x p q n), .int .i64 (lookE x p q n)]), .v, .v, .v, .v, .v, .v, .v, .c, .c, .c, .own 0, .own 1, .v, .own 2, .v, .own 2, .call (.tuple #[.int .i64 (lookY x p q n), .int .i64 (lookS x p q n), .int .i64 (lookE x p q n)]), .v, .v, .v, .v, .v, .v, .v, .c, .c, .c, .call (.bool true), .v, .v, .v, .v, .setv 39 (.bool true), .v, .v, .v, .v, .v, .setv 44 (.bool true), .v, .v, .v, .v, .v, .setv 49 (.bool true), .v, .v, .c] (.ret []))))))
    (by kernel_rfl) hG hE Tryd.func12 (by kernel_rfl) (by kernel_rfl) (Eq.mpr (by kernel_rfl) h)
set_option maxRecDepth 1000000 in
set_option maxHeartbeats 8000000 in
theorem law_GateLooks (x p : Nat → Int) (q n : Int) (hx : ∀ i, I64 (x i)) (hp6 : ∀ i, I64 (p i)) (hq : I64 q) (hn : I64 n) (w : World) (hg : GN w) : Calls Tryd.prog 12 #[.agg #[.int .i64 (x 0), .int .i64 (x 1), .int .i64 (x 2)], .agg #[.int .i64 (p 0), .int .i64 (p 1), .int .i64 (p 2), .int .i64 (p 3), .int .i64 (p 4), .int .i64 (p 5)], .agg #[.int .i64 q, .int .i64 n]] w (fun e w' => e = .returned (.bool true) ∧ Below w.heap.size w w') := by
  refine law_GateLooks_plan x p q n w _ (St.refl w) Ex.nil ?_
  intro r1
  intro r2
  intro r3
  refine ⟨rfl, rfl, rfl, rfl, (CallV.be fun W hS => gate_Look x p q n hx hp6 hq hn W), rfl, rfl, rfl, rfl, (CallV.be fun W hS => ref10_Look x p q n hx hp6 hq hn W), (CallV.be fun W hS => law10_fixed W (hg.below hS.bl)), congrArg Value.bool (beq_self_eq_true _), congrArg Value.bool (beq_self_eq_true _), congrArg Value.bool (beq_self_eq_true _), trivial, ?_⟩
  exact fun W hS => ⟨rfl, hS.bl⟩

end Go.Proofs.YtpdggnocnaaanaaDoor
