/- The second engine: orders that meet; a loop's state at its head, at the start and when it comes again. -/
import Derived.Test.YtnmacidlgadmgaaDoorZj
namespace Go.Proofs.YtnmacidlgadmgaaDoor
open Go.RowKit
theorem hv {a b : Prop} (h : a) (k : a → b) : b := k h
theorem mtI (S : (Nat → Nat) → (Nat → Option Addr × Nat) → SD) (ρ : Nat → Nat) (α : Nat → Option Addr × Nat) : ∃ (ρ' : Nat → Nat) (α' : Nat → Option Addr × Nat), S ρ α = S ρ' α' := ⟨ρ, α, rfl⟩
theorem lt0 (I : Lt → Prop) (S : Lt → SD) (z : Lt) (hI : I z) (t : Blks) (gs : Bigs) (rs : Rws) (h1 : (S z).gs ⊆ gs) (h2 : ∀ r ∈ (S z).rs, r ∈ rs) (h3 : (S z).rs.all (fun r => decide (r.1 < (S z).bs.length)) = true) :
    ∃ ζ, I ζ ∧ ((S z).tmps = (S ζ).tmps ∧ (∃ τ : Blks, (S z).bs ++ t = (S ζ).bs ++ τ) ∧ (S ζ).gs ⊆ gs ∧ (∀ r ∈ (S ζ).rs, r ∈ rs) ∧ (S ζ).rs.all (fun r => decide (r.1 < (S ζ).bs.length)) = true ∧ (S z).os = (S ζ).os) :=
  ⟨z, hI, rfl, ⟨t, rfl⟩, h1, h2, h3, rfl⟩
theorem lt1 (T : List Item) (I : Lt → Prop) (μ : Lt → Nat) (S : Lt → SD) (z0 z : Lt) (hI : I z) (hμ : μ z < μ z0) (t : Blks) (gs : Bigs) (rs : Rws) (h1 : (S z).gs ⊆ gs) (h2 : ∀ r ∈ (S z).rs, r ∈ rs) (h3 : (S z).rs.all (fun r => decide (r.1 < (S z).bs.length)) = true) :
    T = T ∧ ∃ ζ, I ζ ∧ μ ζ < μ z0 ∧ ((S z).tmps = (S ζ).tmps ∧ (∃ τ : Blks, (S z).bs ++ t = (S ζ).bs ++ τ) ∧ (S ζ).gs ⊆ gs ∧ (∀ r ∈ (S ζ).rs, r ∈ rs) ∧ (S ζ).rs.all (fun r => decide (r.1 < (S ζ).bs.length)) = true ∧ (S z).os = (S ζ).os) :=
  ⟨rfl, z, hI, hμ, rfl, ⟨t, rfl⟩, h1, h2, h3, rfl⟩
end Go.Proofs.YtnmacidlgadmgaaDoor
