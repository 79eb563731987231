/- Layer 14's answer (ref14): digits, Signed, one, three. -/
import Derived.Test.YtnmacidlgadmgaaDoorPk
namespace Go.Proofs.YtnmacidlgadmgaaDoor
open Go.RowKit
set_option linter.unusedSimpArgs false
set_option linter.unusedVariables false
def dgS (n : Nat) : ByteArray := ⟨(Lib.decDigits n).toArray⟩
theorem sl_dig {n : Nat} (h : n < 10) : FactV Tryd.prog (execOp (KX.ev ⟨[], #[.int .u64 (n : Int), .int .u64 ((n + 1 : Nat) : Int)], [], [], [], [], .ctl⟩) { dst := none, op := .slice 9 (.const (.string ⟨#[48, 49, 50, 51, 52, 53, 54, 55, 56, 57]⟩)) (some (.tmp 0)) (some (.tmp 1)) none, type := 9, pos := "", after := #[], guard := none }) (.string (dgS n)) := by
  unfold dgS
  rw [Lib.decDigits_one h]
  rcases (by omega : n = 0 ∨ n = 1 ∨ n = 2 ∨ n = 3 ∨ n = 4 ∨ n = 5 ∨ n = 6 ∨ n = 7 ∨ n = 8 ∨ n = 9) with rfl | rfl | rfl | rfl | rfl | rfl | rfl | rfl | rfl | rfl <;> intro W <;> kernel_rfl
theorem cat_dig {n : Nat} (h : ¬ n < 10) (hn : n < 18446744073709551616) : FactV Tryd.prog (execOp (KX.ev ⟨[], #[.string (dgS (n / 10)), .string (dgS (n % 10))], [], [], [], [], .ctl⟩) { dst := none, op := .binOp .add 9 (.tmp 0) (.tmp 1) 9, type := 9, pos := "", after := #[], guard := none }) (.string (dgS n)) := by
  have e : dgS (n / 10) ++ dgS (n % 10) = dgS n := by
    unfold dgS
    rw [Lib.decDigits_one (by omega : n % 10 < 10)]
    conv => rhs; rw [Lib.decDigits, dif_neg h]
    apply ByteArray.ext; rw [ByteArray.data_append]; simp
  have hl : ∀ m, m < 18446744073709551616 → (dgS m).size ≤ 20 := fun m hm => by
    have := Lib.nDigits_le20 m hm
    show (Lib.decDigits m).toArray.size ≤ 20
    rw [List.size_toArray, Lib.decDigits_length]; exact this
  have := cat_fact (dgS (n / 10)) (dgS (n % 10)) (by have a := hl (n / 10) (by omega); have b := hl (n % 10) (by omega); omega)
  rw [e] at this
  exact this
theorem wN (a : Nat) (ha : a < 18446744073709551616) : IntKind.u64.wrap (a : Int) = (a : Int) := by rw [IntKind.wrap_u64]; omega
theorem m10 (n : Nat) : Int.tmod ((n : Nat) : Int) 10 = ((n % 10 : Nat) : Int) := rfl
theorem d10 {n : Nat} (hn : n < 18446744073709551616) : IntKind.u64.wrap (Int.tdiv ((n : Nat) : Int) 10) = ((n / 10 : Nat) : Int) := by
  have e : Int.tdiv ((n : Nat) : Int) 10 = ((n / 10 : Nat) : Int) := rfl
  rw [e]; exact wN _ (by omega)
theorem i10 {n : Nat} (hn : n < 10) : IntKind.u64.wrap (((n : Nat) : Int) + 1) = ((n + 1 : Nat) : Int) := wN (n + 1) (by omega)
set_option maxRecDepth 1000000 in
set_option maxHeartbeats 8000000 in
theorem digits_step (n : Nat) (hn : n < 18446744073709551616) (IH : ∀ m, m < n → ∀ W : World, Calls Tryd.prog 49 #[.int .u64 ((m : Nat) : Int)] W fun e w' => e = .returned (.string (dgS m)) ∧ Below W.heap.size W w') (w : World)   : Calls Tryd.prog 49 #[.int .u64 ((n : Nat) : Int)] w (fun e w' => e = .returned (.string (dgS n)) ∧ Below w.heap.size w w') := by
  exact (let B : Base := (⟨w, fun _ => False⟩ : Base); let R : Ending → World → Prop := (fun e w' => e = .returned (.string (dgS n)) ∧ Below w.heap.size w w'); calls_of_planX (f := 49) (B := B) (R := R) (es := []) (c := Tryd.f49.body.getD .skip) (tmps := (tm0 [vU ((n : Nat) : Int)] 15))
    (.s [.c, .c, .v, .c, .c, .c, .c, .v, .v, .c] (.split 4 (.s [.c, .c, .c, .v, .v, .v, .setv 7 (vU ((n + 1 : Nat) : Int)), .fact (.string (dgS n)), .v, .c] (.ret [])) (.s [.c, .c, .c, .c, .v, .v, .setv 10 (vU ((n / 10 : Nat) : Int)), .call (.string (dgS (n / 10))), .v, .v, .setv 13 (vU ((n % 10 : Nat) : Int)), .call (.string (dgS (n % 10))), .fact (.string (dgS n)), .v, .c] (.ret []))))
    (by kernel_rfl) (Sx.refl w _) ExX.nil Tryd.func49 (by kernel_rfl) (by kernel_rfl) (@Eq.mp _ _ (by kernel_rfl) (And.intro (fun (h1 : (decide (((n : Nat) : Int) < 10)) = true) => have h1p : ((n : Nat) : Int) < 10 := (by simpa using h1); have Hn : n < 10 := (by omega); aI (show Value.int .u64 (IntKind.u64.wrap (((n : Nat) : Int) + 1)) = vU ((n + 1 : Nat) : Int) from congrArg (Value.int .u64) (i10 Hn)) (aI (sl_dig Hn) (aI trivial ((show LeafX B R [] [] [] [] (.string (dgS n)) from by
        exact fun W hS => ⟨rfl, hS.bl⟩))))) (fun (h2 : (decide (((n : Nat) : Int) < 10)) = false) => have h2p : ¬ (((n : Nat) : Int) < 10) := (by simpa using h2); have Hn : ¬ n < 10 := (by omega); aI (show Value.int .u64 (IntKind.u64.wrap (Int.tdiv ((n : Nat) : Int) 10)) = vU ((n / 10 : Nat) : Int) from congrArg (Value.int .u64) (d10 hn)) (aI (cv B [] [] [] [] fun W hS => IH (n / 10) (by omega) W) (aI (show Value.int .u64 (Int.tmod ((n : Nat) : Int) 10) = vU ((n % 10 : Nat) : Int) from congrArg (Value.int .u64) (m10 n)) (aI (cv B [] [] [] [] fun W hS => IH (n % 10) (by omega) W) (aI (cat_dig Hn hn) (aI trivial ((show LeafX B R [] [] [] [] (.string (dgS n)) from by
        exact fun W hS => ⟨rfl, hS.bl⟩)))))))))))

theorem ref_digits : ∀ n : Nat, n < 18446744073709551616 → ∀ w : World, Calls Tryd.prog 49 #[.int .u64 ((n : Nat) : Int)] w fun e w' => e = .returned (.string (dgS n)) ∧ Below w.heap.size w w' := by
  intro n
  induction n using Nat.strongRecOn with
  | ind n ih => exact fun hn w => digits_step n hn (fun m hm W => ih m hm (by omega) W) w
end Go.Proofs.YtnmacidlgadmgaaDoor
