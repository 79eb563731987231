/- The second engine, ninth part: short words for proofs as terms. -/
import Derived.Test.YtnmacidlgadmgaaDoorZh
namespace Go.Proofs.YtnmacidlgadmgaaDoor
open Go.RowKit
theorem aI {a b : Prop} (h : a) (k : b) : a ∧ b := ⟨h, k⟩
theorem pE1 (a : Nat) : (a = a ∧ True) := ⟨rfl, trivial⟩
theorem pE2 (a : Nat) : (a = a ∧ (a = a ∧ True)) := ⟨rfl, rfl, trivial⟩
theorem pE3 (a : Nat) : (a = a ∧ (a = a ∧ (a = a ∧ True))) := ⟨rfl, rfl, rfl, trivial⟩
theorem pE4 (a : Nat) : (a = a ∧ (a = a ∧ (a = a ∧ (a = a ∧ True)))) := ⟨rfl, rfl, rfl, rfl, trivial⟩
theorem pE5 (a : Nat) : (a = a ∧ (a = a ∧ (a = a ∧ (a = a ∧ (a = a ∧ True))))) := ⟨rfl, rfl, rfl, rfl, rfl, trivial⟩
theorem pE6 (a : Nat) : (a = a ∧ (a = a ∧ (a = a ∧ (a = a ∧ (a = a ∧ (a = a ∧ True)))))) := ⟨rfl, rfl, rfl, rfl, rfl, rfl, trivial⟩
theorem pE7 (a : Nat) : (a = a ∧ (a = a ∧ (a = a ∧ (a = a ∧ (a = a ∧ (a = a ∧ (a = a ∧ True))))))) := ⟨rfl, rfl, rfl, rfl, rfl, rfl, rfl, trivial⟩
theorem pE8 (a : Nat) : (a = a ∧ (a = a ∧ (a = a ∧ (a = a ∧ (a = a ∧ (a = a ∧ (a = a ∧ (a = a ∧ True)))))))) := ⟨rfl, rfl, rfl, rfl, rfl, rfl, rfl, rfl, trivial⟩
theorem pE9 (a : Nat) : (a = a ∧ (a = a ∧ (a = a ∧ (a = a ∧ (a = a ∧ (a = a ∧ (a = a ∧ (a = a ∧ (a = a ∧ True))))))))) := ⟨rfl, rfl, rfl, rfl, rfl, rfl, rfl, rfl, rfl, trivial⟩
theorem pE10 (a : Nat) : (a = a ∧ (a = a ∧ (a = a ∧ (a = a ∧ (a = a ∧ (a = a ∧ (a = a ∧ (a = a ∧ (a = a ∧ (a = a ∧ True)))))))))) := ⟨rfl, rfl, rfl, rfl, rfl, rfl, rfl, rfl, rfl, rfl, trivial⟩
theorem pE11 (a : Nat) : (a = a ∧ (a = a ∧ (a = a ∧ (a = a ∧ (a = a ∧ (a = a ∧ (a = a ∧ (a = a ∧ (a = a ∧ (a = a ∧ (a = a ∧ True))))))))))) := ⟨rfl, rfl, rfl, rfl, rfl, rfl, rfl, rfl, rfl, rfl, rfl, trivial⟩
theorem pE12 (a : Nat) : (a = a ∧ (a = a ∧ (a = a ∧ (a = a ∧ (a = a ∧ (a = a ∧ (a = a ∧ (a = a ∧ (a = a ∧ (a = a ∧ (a = a ∧ (a = a ∧ True)))))))))))) := ⟨rfl, rfl, rfl, rfl, rfl, rfl, rfl, rfl, rfl, rfl, rfl, rfl, trivial⟩
section
variable {P : Program} {g : FuncId} {args : Array Value} {v : Value}
theorem cv (B : Base) (bs : Blks) (gs : Bigs) (rs : Rws) (os : Lps) (h : ∀ W, Sx B W bs gs rs os → Calls P g args W fun e w' => e = .returned v ∧ Below W.heap.size W w') : CallVX P B bs gs rs os g args v := h
theorem cw (B : Base) (bs : Blks) (gs : Bigs) (rs : Rws) (os : Lps) (h : ∀ W, Sx B W bs gs rs os → Calls P g args W fun e w' => e = .returned v ∧ W = w') : CallVX P B bs gs rs os g args v := CallVX.of h
theorem cb (B : Base) (bs : Blks) (gs : Bigs) (rs : Rws) (os : Lps) (z : Int) (h : ∀ W, Sx B W bs gs rs os → Calls P g args W fun e w' => ∃ A c, e = .returned (.agg #[.bool (sg z), .slice A (nd z) c]) ∧ RB w' A c z ∧ Below W.heap.size W w') : CallBX P B bs gs rs os g args z := h
end
end Go.Proofs.YtnmacidlgadmgaaDoor
