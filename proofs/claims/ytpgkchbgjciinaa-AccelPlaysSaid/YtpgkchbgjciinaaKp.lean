/- Plain words of layer 13 (conf): the rules. No Go in sight. -/
import Derived.Test.YtpgkchbgjciinaaWa
namespace Go.Proofs.Ytpgkchbgjciinaa

/-- Is a number from one to another one? -/
def wiB (x lo hi : Int) : Bool := decide (lo ≤ x ∧ x ≤ hi)
theorem wiB_true {x lo hi : Int} : wiB x lo hi = true ↔ lo ≤ x ∧ x ≤ hi := decide_eq_true_iff
theorem wiB_false {x lo hi : Int} : wiB x lo hi = false ↔ ¬ (lo ≤ x ∧ x ≤ hi) := decide_eq_false_iff_not
/-- The rules of a configuration, whose numbers stand in the order of its fields: Q 0, Loose 3, R 6, RGround 7, Start 8, Floor 11, Ceil 14, Bound 17, Gate 20, Table 21, Scale 24, Rest 25, Clip 26, Hold 27, Coast 28, Out 29, Band 30. -/
def may1 (f g : Int) : Bool := decide (0 ≤ f ∧ f ≤ g ∧ g ≤ 288230376151711744)
def mayB (f g : Nat → Int) : Bool := may1 (f 0) (g 0) && (may1 (f 1) (g 1) && may1 (f 2) (g 2))
def ruleB (c : Nat → Int) : Nat → Bool
  | 1 => wiB (c 0) 0 1125899906842624 && (wiB (c 1) 0 1125899906842624 && wiB (c 2) 0 1125899906842624)
  | 2 => wiB (c 3) (c 0) 1125899906842624 && (wiB (c 4) (c 1) 1125899906842624 && wiB (c 5) (c 2) 1125899906842624)
  | 3 => wiB (c 6) 274877906944 1125899906842624
  | 4 => wiB (c 7) (c 6) 1125899906842624
  | 5 => mayB (fun i => c (11 + i)) (fun i => c (14 + i)) && (decide (c 14 ≤ 72057594037927936) && (decide (c 15 ≤ 72057594037927936) && decide (c 16 ≤ 72057594037927936)))
  | 6 => wiB (c 8) (c 11) (c 14) && (wiB (c 9) (c 12) (c 15) && wiB (c 10) (c 13) (c 16))
  | 7 => wiB (c 17) 0 72057594037927936 && (wiB (c 18) 0 72057594037927936 && wiB (c 19) 0 72057594037927936) && decide (18014398509481984 ≤ c 17)
  | 8 => wiB (c 20) 1 1000
  | 9 => wiB (c 21) (-4398046511104) 4398046511104 && (wiB (c 22) (-4398046511104) 4398046511104 && wiB (c 23) (-4398046511104) 4398046511104) && wiB (c 21) 0 1099511627776
  | 10 => wiB (c 24) 1 1099511627776
  | 11 => wiB (c 26) 1 131072 && (decide (-c 26 < c 25) && decide (c 25 < c 26))
  | 12 => wiB (c 27) 0 1000
  | 13 => wiB (c 28) 1 (c 29) && decide (c 29 ≤ 100000)
  | 14 => wiB (c 30) 0 400000
  | _ => true
/-- The first rule that isn't kept, from the k-th one on; n are left. -/
def firstC (c : Nat → Int) : Nat → Nat → Int
  | 0, _ => 0
  | n + 1, k => if ruleB c k then firstC c n (k + 1) else k
def ckC (c : Nat → Int) : Int := firstC c 14 1
end Go.Proofs.Ytpgkchbgjciinaa
