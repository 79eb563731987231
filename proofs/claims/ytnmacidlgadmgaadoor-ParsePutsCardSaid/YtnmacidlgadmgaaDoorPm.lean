/- Layer 14's answer (ref14): Signed, one, three. -/
import Derived.Test.YtnmacidlgadmgaaDoorPl
namespace Go.Proofs.YtnmacidlgadmgaaDoor
open Go.RowKit
set_option linter.unusedSimpArgs false
set_option linter.unusedVariables false
def itS (x : Int) : ByteArray := ⟨(Lib.itoa x).toArray⟩
theorem itS_pos {x : Int} (h : ¬ x < 0) : dgS x.natAbs = itS x := by
  unfold dgS itS Lib.itoa; rw [if_neg h]; congr 3; omega
theorem itS_neg {x : Int} (h : x < 0) : (⟨#[45]⟩ : ByteArray) ++ dgS x.natAbs = itS x := by
  unfold dgS itS Lib.itoa; rw [if_pos h]
  apply ByteArray.ext; rw [ByteArray.data_append]; simp
theorem itS_len {x : Int} (hx : I64 x) : (itS x).size ≤ 21 := by
  unfold I64 at hx
  have := Lib.itoa_length_le x (by omega) (by omega)
  show (Lib.itoa x).toArray.size ≤ 21
  rw [List.size_toArray]; exact this
theorem dgS_len {m : Nat} (hm : m < 18446744073709551616) : (dgS m).size ≤ 20 := by
  have := Lib.nDigits_le20 m hm
  show (Lib.decDigits m).toArray.size ≤ 20
  rw [List.size_toArray, Lib.decDigits_length]; exact this
theorem neg_fact {x : Int} (hx : I64 x) (h : x < 0) : FactV Tryd.prog (execOp (KX.ev ⟨[], #[.string ⟨#[45]⟩, .string (dgS x.natAbs)], [], [], [], [], .ctl⟩) { dst := none, op := .binOp .add 9 (.tmp 0) (.tmp 1) 9, type := 9, pos := "", after := #[], guard := none }) (.string (itS x)) := by
  unfold I64 at hx
  have hl : (⟨#[45]⟩ : ByteArray).size = 1 := rfl
  have := cat_fact ⟨#[45]⟩ (dgS x.natAbs) (by have a := dgS_len (m := x.natAbs) (by omega); omega)
  rw [itS_neg h] at this
  exact this
theorem c10 {x : Int} (hx : I64 x) (h : ¬ x < 0) : IntKind.u64.wrap x = ((x.natAbs : Nat) : Int) := by
  unfold I64 at hx
  have e : x = ((x.natAbs : Nat) : Int) := by omega
  rw [e]; exact wN _ (by omega)
theorem a10 {x : Int} (hx : I64 x) (h : x < 0) : IntKind.i64.wrap (x + 1) = -((x.natAbs - 1 : Nat) : Int) := by
  unfold I64 at hx; rw [wrapI (by omega)]; omega
theorem b10 {x : Int} (hx : I64 x) (h : x < 0) : IntKind.i64.wrap (0 - (-((x.natAbs - 1 : Nat) : Int))) = ((x.natAbs - 1 : Nat) : Int) := by
  unfold I64 at hx; rw [wrapI (by omega)]; omega
theorem e10 {x : Int} (hx : I64 x) (h : x < 0) : IntKind.u64.wrap ((x.natAbs - 1 : Nat) : Int) = ((x.natAbs - 1 : Nat) : Int) := by
  unfold I64 at hx; exact wN _ (by omega)
theorem f10 {x : Int} (hx : I64 x) (h : x < 0) : IntKind.u64.wrap (((x.natAbs - 1 : Nat) : Int) + 1) = ((x.natAbs : Nat) : Int) := by
  unfold I64 at hx
  have e : ((x.natAbs - 1 : Nat) : Int) + 1 = ((x.natAbs : Nat) : Int) := by omega
  rw [e]; exact wN _ (by omega)
/-- What stands so far and one piece more. -/
theorem cat_to {a b c : ByteArray} (m : Nat) (ha : a.size ≤ m) (hb : b.size ≤ 10000) (hm : m ≤ 100000) (e : a ++ b = c) : FactV Tryd.prog (execOp (KX.ev ⟨[], #[.string a, .string b], [], [], [], [], .ctl⟩) { dst := none, op := .binOp .add 9 (.tmp 0) (.tmp 1) 9, type := 9, pos := "", after := #[], guard := none }) (.string c) := e ▸ cat_fact a b (by omega)
set_option maxRecDepth 1000000 in
set_option maxHeartbeats 8000000 in
theorem ref_Signed (x : Int) (hx : I64 x) (w : World)   : Calls Tryd.prog 35 #[.int .i64 x] w (fun e w' => e = .returned (.string (itS x)) ∧ Below w.heap.size w w') := by
  exact (let B : Base := (⟨w, fun _ => False⟩ : Base); let R : Ending → World → Prop := (fun e w' => e = .returned (.string (itS x)) ∧ Below w.heap.size w w'); calls_of_planX (f := 35) (B := B) (R := R) (es := []) (c := Tryd.f35.body.getD .skip) (tmps := (tm0 [vI x] 14))
    (.s [.c, .c, .v, .c, .c, .c, .c, .v, .v, .c] (.split 4 (.s [.c, .c, .c, .v, .v, .setv 6 (vI (-((x.natAbs - 1 : Nat) : Int))), .v, .setv 7 (vI ((x.natAbs - 1 : Nat) : Int)), .v, .setv 8 (vU ((x.natAbs - 1 : Nat) : Int)), .v, .setv 9 (vU ((x.natAbs : Nat) : Int)), .call (.string (dgS x.natAbs)), .fact (.string (itS x)), .v, .c] (.ret [])) (.s [.c, .c, .c, .c, .v, .v, .setv 13 (vU ((x.natAbs : Nat) : Int)), .call (.string (dgS x.natAbs)), .v, .c] (.ret []))))
    (by kernel_rfl) (Sx.refl w _) ExX.nil Tryd.func35 (by kernel_rfl) (by kernel_rfl) (@Eq.mp _ _ (by kernel_rfl) (And.intro (fun (h1 : (decide (x < 0)) = true) => have h1p : x < 0 := (by simpa using h1); have Hx : x < 0 := (by omega); aI (vE (a := (IntKind.i64.wrap (x + 1))) (b := (-((x.natAbs - 1 : Nat) : Int))) (a10 hx Hx)) (aI (vE (a := (IntKind.i64.wrap (0 - (-((x.natAbs - 1 : Nat) : Int))))) (b := ((x.natAbs - 1 : Nat) : Int)) (b10 hx Hx)) (aI (show Value.int .u64 (IntKind.u64.wrap (((x.natAbs - 1 : Nat) : Int))) = vU ((x.natAbs - 1 : Nat) : Int) from congrArg (Value.int .u64) (e10 hx Hx)) (aI (show Value.int .u64 (IntKind.u64.wrap (((x.natAbs - 1 : Nat) : Int) + 1)) = vU ((x.natAbs : Nat) : Int) from congrArg (Value.int .u64) (f10 hx Hx)) (aI (cv B [] [] [] [] fun W hS => ref_digits x.natAbs (by unfold I64 at hx; omega) W) (aI (neg_fact hx Hx) (aI trivial ((show LeafX B R [] [] [] [] (.string (itS x)) from by
        exact fun W hS => ⟨rfl, hS.bl⟩))))))))) (fun (h2 : (decide (x < 0)) = false) => have h2p : ¬ (x < 0) := (by simpa using h2); have Hx : ¬ x < 0 := (by omega); aI (show Value.int .u64 (IntKind.u64.wrap (x)) = vU ((x.natAbs : Nat) : Int) from congrArg (Value.int .u64) (c10 hx Hx)) (aI (cv B [] [] [] [] fun W hS => ref_digits x.natAbs (by unfold I64 at hx; omega) W) (aI trivial ((show LeafX B R [] [] [] [] (.string (dgS x.natAbs)) from by
        exact fun W hS => ⟨by rw [itS_pos Hx], hS.bl⟩))))))))

end Go.Proofs.YtnmacidlgadmgaaDoor
