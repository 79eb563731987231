/- Walks of the layer 'wide', second part: what reads the package's 'none'. -/
import Derived.Test.YtlinfennhfphiaaDoorWb
import Derived.Test.YtlinfennhfphiaaDoorEd
namespace Go.Proofs.YtlinfennhfphiaaDoor
open Go.RowKit
set_option linter.unusedSimpArgs false
set_option linter.unusedVariables false
attribute [local go_sem] nlt2 nlt3 nlt4 nlt5 nlt6 nlt7 nlt8 nlt9 nlt10 nlt11 nlt12

/-- A global's number, less what a simp takes off both sides, is not the number of a later block. -/
theorem low_ne {g n : Nat} (h : g < n) : (∀ k, k ≤ g → ¬ (k = n)) ∧ (∀ k, k ≤ g → ¬ (n = k)) ∧ (∀ k, k ≤ g → k < n) := ⟨fun k hk e => by omega, fun k hk e => by omega, fun k hk => by omega⟩
/-- The package-level variables 'none' and 'least' hold what their initialisers lay. -/
def GN (w : World) : Prop := w.cell? ⟨1, 0, none⟩ = some (.int .i64 0) ∧ w.cell? ⟨1, 1, none⟩ = some (.int .u64 0)
theorem GN.below {w w' : World} (h : GN w) (hb : Below w.heap.size w w') : GN w' := by
  have hlt := World.block_lt_of_cell? w _ h.1
  exact ⟨((bcell hb).1 _ _ hlt).trans h.1, ((bcell hb).1 _ _ hlt).trans h.2⟩

set_option maxRecDepth 1000000 in
theorem wide_Add_plan (a b : Int) (w : World) (R : Ending → World → Prop) (hG : St w w [] []) (hE : Ex w [(1, [.int .i64 0, .int .u64 0])])
    (h : ∀ r1 : Nat, ∀ r2 : Nat, ∀ r3 : Nat, r1 = r1 ∧ r2 = r2 ∧ CallV Tryd.prog w [(r1, [.int .i64 (whi a), .int .u64 (wlo a)]), (r2, [.int .i64 (whi b), .int .u64 (wlo b)]), (r3, [.int .i64 0, .int .u64 0])] [] 105 #[.agg #[.int .i64 (whi a), .int .u64 (wlo a)], .agg #[.int .i64 (whi b), .int .u64 (wlo b)]] (.agg #[.int .i64 (whi (wrapW (a + b))), .int .u64 (wlo (wrapW (a + b)))]) ∧ (∀ r4 : Nat, (r4 = r4 ∧ (r4 = r4 ∧ (True))) ∧ r1 = r1 ∧ r2 = r2 ∧ ((((decide ((whi a) < 0)) == (decide ((whi b) < 0))) = true → r4 = r4 ∧ r1 = r1 ∧ (((!((decide ((whi (wrapW (a + b))) < 0)) == (decide ((whi a) < 0)))) = true → 1 = 1 ∧ (r3 = r3 ∧ (r3 = r3 ∧ (True))) ∧ (r3 = r3 ∧ (True)) ∧ (LeafV R w [(r1, [.int .i64 (whi a), .int .u64 (wlo a)]), (r2, [.int .i64 (whi b), .int .u64 (wlo b)]), (r3, [.int .i64 0, .int .u64 0]), (r4, [.int .i64 (whi (wrapW (a + b))), .int .u64 (wlo (wrapW (a + b)))])] [] (.tuple #[.agg #[.int .i64 0, .int .u64 0], .int .i64 3]))) ∧ ((!((decide ((whi (wrapW (a + b))) < 0)) == (decide ((whi a) < 0)))) = false → r4 = r4 ∧ (r3 = r3 ∧ (r3 = r3 ∧ (True))) ∧ (r3 = r3 ∧ (True)) ∧ (LeafV R w [(r1, [.int .i64 (whi a), .int .u64 (wlo a)]), (r2, [.int .i64 (whi b), .int .u64 (wlo b)]), (r3, [.int .i64 (whi (wrapW (a + b))), .int .u64 (wlo (wrapW (a + b)))]), (r4, [.int .i64 (whi (wrapW (a + b))), .int .u64 (wlo (wrapW (a + b)))])] [] (.tuple #[.agg #[.int .i64 (whi (wrapW (a + b))), .int .u64 (wlo (wrapW (a + b)))], .int .i64 0]))))) ∧ (((decide ((whi a) < 0)) == (decide ((whi b) < 0))) = false → r4 = r4 ∧ (r3 = r3 ∧ (r3 = r3 ∧ (True))) ∧ (r3 = r3 ∧ (True)) ∧ (LeafV R w [(r1, [.int .i64 (whi a), .int .u64 (wlo a)]), (r2, [.int .i64 (whi b), .int .u64 (wlo b)]), (r3, [.int .i64 (whi (wrapW (a + b))), .int .u64 (wlo (wrapW (a + b)))]), (r4, [.int .i64 (whi (wrapW (a + b))), .int .u64 (wlo (wrapW (a + b)))])] [] (.tuple #[.agg #[.int .i64 (whi (wrapW (a + b))), .int .u64 (wlo (wrapW (a + b)))], .int .i64 0])))))) : Calls Tryd.prog 79 #[.agg #[.int .i64 (whi a), .int .u64 (wlo a)], .agg #[.int .i64 (whi b), .int .u64 (wlo b)]] w R :=
  calls_of_plan (f := 79) (es := [(1, [.int .i64 0, .int .u64 0])]) (c := Tryd.f79.body.getD .skip) (tmps := #[.agg #[.int .i64 (whi a), .int .u64 (wlo a)], .agg #[.int .i64 (whi b), .int .u64 (wlo b)], undef, undef, undef, undef, undef, undef, undef, undef, undef, undef, undef, undef, undef, undef, undef, undef, undef, undef, undef, undef, undef, undef, undef, undef, undef, undef])
    (.s [.c, .c] (.new (fun r1 => .new (fun r2 => .new (fun r3 => .s [.v, .c, .c, .c, .own 0, .own 1, .call (.agg #[.int .i64 (whi (wrapW (a + b))), .int .u64 (wlo (wrapW (a + b)))])] (.new (fun r4 => .s [.put 3, .c, .c, .c, .c, .v, .own 0, .v, .v, .own 1, .v, .v, .v] (.split 17 (.s [.v, .own 3, .v, .v, .own 0, .v, .v, .v, .c] (.split 25 (.s [.c, .c, .c, .ext 0, .put 2, .v, .c] (.ret [2])) (.s [.c, .c, .c, .c, .own 3, .put 2, .v, .c] (.ret [2])))) (.s [.u, .u, .u, .u, .u, .u, .u, .v, .c, .c, .c, .c, .c, .own 3, .put 2, .v, .c] (.ret [2]))))))))))
    (by kernel_rfl) hG hE Tryd.func79 (by kernel_rfl) (by kernel_rfl) (Eq.mpr (by kernel_rfl) h)
set_option maxRecDepth 1000000 in
set_option maxHeartbeats 8000000 in
theorem wide_Add (a b : Int) (ha : W128 a) (hb : W128 b) (w : World) (hg : GN w) : Calls Tryd.prog 79 #[.agg #[.int .i64 (whi a), .int .u64 (wlo a)], .agg #[.int .i64 (whi b), .int .u64 (wlo b)]] w (fun e w' => e = .returned (.tuple #[.agg #[.int .i64 (whi (fitW (a + b))), .int .u64 (wlo (fitW (a + b)))], .int .i64 (errW (a + b))]) ∧ Below w.heap.size w w') := by
  refine wide_Add_plan a b w _ (St.refl w) (by exact Ex.cons (exOf (by exact ⟨hg.1, hg.2, trivial⟩)) (Ex.nil)) ?_
  intro r1
  intro r2
  intro r3
  refine ⟨rfl, rfl, (CallV.be fun W hS => wide_plus a b W), ?_⟩
  intro r4
  refine ⟨⟨rfl, rfl, trivial⟩, rfl, rfl, ?_⟩
  refine ⟨?_, ?_⟩
  · intro h5
    have h5p : (decide ((whi a) < 0)) = (decide ((whi b) < 0)) := by simpa using h5
    refine ⟨rfl, rfl, ?_⟩
    refine ⟨?_, ?_⟩
    · intro h60
      have h6 : ((decide ((whi (wrapW (a + b))) < 0)) == (decide ((whi a) < 0))) = false := by simpa using h60
      have h6p : ¬ ((decide ((whi (wrapW (a + b))) < 0)) = (decide ((whi a) < 0))) := by simpa using h6
      refine ⟨rfl, ⟨rfl, rfl, trivial⟩, ⟨rfl, trivial⟩, ?_⟩
      have F := add_case' ha hb (by simp only [h5, h6, bne, Bool.false_and, Bool.and_false, Bool.not_true, Bool.not_false, Bool.and_self, Bool.true_and, Bool.and_true, Bool.or_self, Bool.or_true, Bool.or_false, Bool.true_or, Bool.false_or])
      exact fun W hS => ⟨by rw [F.1, F.2]; rfl, hS.bl⟩
    · intro h70
      have h7 : ((decide ((whi (wrapW (a + b))) < 0)) == (decide ((whi a) < 0))) = true := by simpa using h70
      have h7p : (decide ((whi (wrapW (a + b))) < 0)) = (decide ((whi a) < 0)) := by simpa using h7
      refine ⟨rfl, ⟨rfl, rfl, trivial⟩, ⟨rfl, trivial⟩, ?_⟩
      have F := add_case ha hb (by simp only [h5, h7, bne, Bool.false_and, Bool.and_false, Bool.not_true, Bool.not_false, Bool.and_self, Bool.true_and, Bool.and_true, Bool.or_self, Bool.or_true, Bool.or_false, Bool.true_or, Bool.false_or])
      exact fun W hS => ⟨by rw [F.1, F.2], hS.bl⟩
  · intro h8
    have h8p : ¬ ((decide ((whi a) < 0)) = (decide ((whi b) < 0))) := by simpa using h8
    refine ⟨rfl, ⟨rfl, rfl, trivial⟩, ⟨rfl, trivial⟩, ?_⟩
    have F := add_case ha hb (by simp only [h8, bne, Bool.false_and, Bool.and_false, Bool.not_true, Bool.not_false, Bool.and_self, Bool.true_and, Bool.and_true, Bool.or_self, Bool.or_true, Bool.or_false, Bool.true_or, Bool.false_or])
    exact fun W hS => ⟨by rw [F.1, F.2], hS.bl⟩

end Go.Proofs.YtlinfennhfphiaaDoor
