/- The second engine: short words for what it prints. -/
import Derived.Test.YtnmacidlgadmgaaDoorZk
namespace Go.Proofs.YtnmacidlgadmgaaDoor
open Go.RowKit
/-- a list's place -/
def luG : List Value → Nat → Value
  | [], _ => undef
  | v :: _, 0 => v
  | _ :: l, i + 1 => luG l i
/-- the values from places on -/
def lu : List (Nat × List Value) → Nat → Value
  | [], _ => undef
  | (a, l) :: t, i => if (Nat.ble a i && Nat.blt i (a + l.length)) = true then luG l (i - a) else lu t i
/-- the slots at a function's start -/
def tm0 (l : List Value) (n : Nat) : Array Value := (l ++ List.replicate n undef).toArray
abbrev vI (x : Int) : Value := .int .i64 x
abbrev vU (x : Int) : Value := .int .u64 x
abbrev vP (r : Nat) : Value := .pointer (some ⟨r, 0, none⟩)
abbrev vS (r n c : Nat) : Value := .slice (some ⟨r, 0, none⟩) n c
abbrev vF : Value := .bool false
abbrev vT : Value := .bool true
abbrev vN : Value := undef
theorem vB {a b : Bool} (h : a = b) : Value.bool a = .bool b := congrArg _ h
theorem vE {a b : Int} (h : a = b) : Value.int .i64 a = .int .i64 b := congrArg _ h
end Go.Proofs.YtnmacidlgadmgaaDoor
