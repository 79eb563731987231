/- Walks of the reference of layer 2 (fix). -/
/- Walks of layer 2 (fix), by plans. -/
import Derived.Test.YtfbhcaocfajjpaaDoorQFp
import Derived.Test.YtfbhcaocfajjpaaDoorQRo
import Derived.Test.YtfbhcaocfajjpaaDoorQRp
import Derived.Test.YtfbhcaocfajjpaaDoorQSu
import Derived.Test.YtfbhcaocfajjpaaDoorQFf
import Derived.Test.YtfbhcaocfajjpaaDoorQEd
import Derived.Test.YtfbhcaocfajjpaaDoorQWc
namespace Go.Proofs.YtfbhcaocfajjpaaDoor
open Go.RowKit
set_option linter.unusedSimpArgs false
set_option linter.unusedVariables false
set_option linter.unusedSimpArgs false
set_option linter.unusedVariables false
attribute [local go_sem] nlt2 nlt3 nlt4 nlt5 nlt6 nlt7 nlt8 nlt9 nlt10 nlt11 nlt12
attribute [local go_sem] field_D

theorem fit_err {z : Int} : (fitB z = true → fitI z = z ∧ errI z = 0) ∧ (fitB z = false → I64 z → fitI z = z ∧ errI z = 0) ∧ (¬ I64 z → fitI z = 0 ∧ errI z = 3) :=
  ⟨fun h => by have := fitB_i64 h; simp [fitI, errI, this], fun _ h => by simp [fitI, errI, h], fun h => by simp [fitI, errI, h]⟩
theorem to_a {z : Int} (h : ¬ errI z = 0) : toV z = 0 ∧ toE z = 3 := by
  refine to_not ?_
  cases hf : fitB z
  · rfl
  · exact absurd (fit_err.1 hf).2 h
theorem to_b {z : Int} (h : errI z = 0) (h2 : fitB (fitI z) = false) : toV z = 0 ∧ toE z = 3 := by
  refine to_not ?_
  cases hf : fitB z
  · rfl
  · rw [(fit_err.1 hf).1, hf] at h2; cases h2
theorem to_c {z : Int} (h : errI z = 0) (h2 : fitB (fitI z) = true) : toV z = fitI z ∧ toE z = 0 := by
  have hi : I64 z := by unfold errI at h; split at h; assumption; cases h
  have e : fitI z = z := by simp [fitI, hi]
  rw [e] at h2 ⊢; exact to_fit h2
theorem nd_ev (x : Int) {b : Int} (hb : b ≠ 0) : nd (ev x b) ≤ nd x + 1 := by
  have hk : (ev x b).natAbs ≤ x.natAbs + 1 := by
    have key : ∀ y d : Int, 0 < d → (evP y d).natAbs ≤ y.natAbs + 1 := by
      intro y d hd
      have h1 := div_abs (a := y) hd
      unfold evP; split <;> omega
    unfold ev
    split
    · have := key (-x) (-b) (by omega); omega
    · exact key x b (by omega)
  have h2 := nd_add (x.natAbs : Int) 1
  have h3 : nd (ev x b) ≤ nd ((x.natAbs : Int) + 1) := nd_mono (by omega)
  have h4 : nd (x.natAbs : Int) = nd x := by unfold nd dg; rw [Int.natAbs_natCast]
  have h5 : nd 1 ≤ 1 := nd_le_of (by decide)
  by_cases hx : nd x = 0
  · have := (nd_zero_iff x).1 hx
    subst this
    have : (ev 0 b).natAbs ≤ 1 := by simpa using hk
    have h6 : nd (ev 0 b) ≤ nd 1 := nd_mono (by omega)
    omega
  · omega
set_option maxRecDepth 1000000 in
set_option maxHeartbeats 8000000 in
theorem ref2_To_plan (z : Int) (A : Option Addr) (c : Nat) (w : World) (R : Ending → World → Prop) (hG : St w w [] [(A, c, z)]) (hE : Ex w [])
    (h : ∀ r1 : Nat, r1 = r1 ∧ CallV Tryd.prog w [(r1, [.bool (sg z), .slice A (nd z) c])] [(A, c, z)] 57 #[.agg #[.bool (sg z), .slice A (nd z) c]] (.tuple #[.int .i64 (fitI z), .int .i64 (errI z)]) ∧ ((((errI z) != 0) = true → (True) ∧ (LeafV R w [(r1, [.bool (sg z), .slice A (nd z) c])] [(A, c, z)] (.tuple #[.int .i64 0, .int .i64 3]))) ∧ (((errI z) != 0) = false → CallV Tryd.prog w [(r1, [.bool (sg z), .slice A (nd z) c])] [(A, c, z)] 54 #[.int .i64 (fitI z)] (.bool (fitB (fitI z))) ∧ (((!(fitB (fitI z))) = true → (True) ∧ (LeafV R w [(r1, [.bool (sg z), .slice A (nd z) c])] [(A, c, z)] (.tuple #[.int .i64 0, .int .i64 3]))) ∧ ((!(fitB (fitI z))) = false → (True) ∧ (LeafV R w [(r1, [.bool (sg z), .slice A (nd z) c])] [(A, c, z)] (.tuple #[.int .i64 (fitI z), .int .i64 0]))))))) : Calls Tryd.prog 48 #[.agg #[.bool (sg z), .slice A (nd z) c]] w R :=
  calls_of_plan (f := 48) (es := []) (c := Tryd.f48.body.getD .skip) (tmps := #[.agg #[.bool (sg z), .slice A (nd z) c], undef, undef, undef, undef, undef, undef, undef, undef, undef, undef, undef, undef, undef, undef, undef, undef, undef, undef])
    (.s [.c, .c] (.new (fun r1 => .s [.v, .v, .c, .c, .c, .own 0, .call (.tuple #[.int .i64 (fitI z), .int .i64 (errI z)]), .v, .v, .v, .v, .v, .c, .c, .c, .c, .v, .v, .v] (.split 13 (.s [.u, .u, .u, .v, .c, .c, .c, .c, .v, .v, .c] (.ret [])) (.s [.v, .call (.bool (fitB (fitI z))), .v, .v, .c] (.split 17 (.s [.c, .c, .c, .v, .v, .c] (.ret [])) (.s [.c, .c, .c, .c, .v, .v, .v, .c] (.ret []))))))))
    (by kernel_rfl) hG hE Tryd.func48 (by kernel_rfl) (by kernel_rfl) (Eq.mpr (by kernel_rfl) h)
set_option maxRecDepth 1000000 in
set_option maxHeartbeats 8000000 in
theorem ref2_To (z : Int) (A : Option Addr) (c : Nat) (hz : nd z ≤ 5000) (w : World) (h : RB w A c z) : Calls Tryd.prog 48 #[.agg #[.bool (sg z), .slice A (nd z) c]] w (fun e w' => e = .returned (.tuple #[.int .i64 (toV z), .int .i64 (toE z)]) ∧ Below w.heap.size w w') := by
  refine ref2_To_plan z A c w _ ((St.refl w).bigEnd h) Ex.nil ?_
  intro r1
  refine ⟨rfl, (CallV.be fun W hS => ref_Int z _ _ (Nat.le_trans hz (by decide)) W (hS.rb 0 rfl)), ?_⟩
  refine ⟨?_, ?_⟩
  · intro h2
    have h2p : ¬ ((errI z) = 0) := by simpa using h2
    refine ⟨trivial, ?_⟩
    have F := to_a h2p
    exact fun W hS => ⟨by rw [F.1, F.2], hS.bl⟩
  · intro h3
    have h3p : (errI z) = 0 := by simpa using h3
    refine ⟨(CallV.of fun W hS => ref2_Fits (fitI z)  W ), ?_⟩
    refine ⟨?_, ?_⟩
    · intro h40
      have h4 : (fitB (fitI z)) = false := by simpa using h40
      refine ⟨trivial, ?_⟩
      have F := to_b h3p h4
      exact fun W hS => ⟨by rw [F.1, F.2], hS.bl⟩
    · intro h50
      have h5 : (fitB (fitI z)) = true := by simpa using h50
      refine ⟨trivial, ?_⟩
      have F := to_c h3p h5
      exact fun W hS => ⟨by rw [F.1, F.2], hS.bl⟩
set_option maxRecDepth 1000000 in
set_option maxHeartbeats 8000000 in
theorem ref2_Add_plan (a b : Int) (w : World) (R : Ending → World → Prop) (hG : St w w [] []) (hE : Ex w [])
    (h : CallV Tryd.prog w [] [] 54 #[.int .i64 a] (.bool (fitB a)) ∧ (((!(fitB a)) = true → (True) ∧ (LeafV R w [] [] (.tuple #[.int .i64 0, .int .i64 1]))) ∧ ((!(fitB a)) = false → CallV Tryd.prog w [] [] 54 #[.int .i64 b] (.bool (fitB b)) ∧ (((!(fitB b)) = true → (True) ∧ (LeafV R w [] [] (.tuple #[.int .i64 0, .int .i64 1]))) ∧ ((!(fitB b)) = false → CallB Tryd.prog w [] [] 40 #[.int .i64 a] a ∧ (∀ (A5 : Option Addr) (c6 : Nat), CallB Tryd.prog w [] [(A5, c6, a)] 40 #[.int .i64 b] b ∧ (∀ (A7 : Option Addr) (c8 : Nat), CallB Tryd.prog w [] [(A5, c6, a), (A7, c8, b)] 60 #[.agg #[.bool (sg a), .slice A5 (nd a) c6], .agg #[.bool (sg b), .slice A7 (nd b) c8]] (a + b) ∧ (∀ (A9 : Option Addr) (c10 : Nat), CallV Tryd.prog w [] [(A5, c6, a), (A7, c8, b), (A9, c10, a + b)] 48 #[.agg #[.bool (sg (a + b)), .slice A9 (nd (a + b)) c10]] (.tuple #[.int .i64 (toV (a + b)), .int .i64 (toE (a + b))]) ∧ (True) ∧ (LeafV R w [] [(A5, c6, a), (A7, c8, b), (A9, c10, a + b)] (.tuple #[.int .i64 (toV (a + b)), .int .i64 (toE (a + b))])))))))))) : Calls Tryd.prog 34 #[.int .i64 a, .int .i64 b] w R :=
  calls_of_plan (f := 34) (es := []) (c := Tryd.f34.body.getD .skip) (tmps := #[.int .i64 a, .int .i64 b, undef, undef, undef, undef, undef, undef, undef, undef, undef, undef, undef, undef, undef, undef, undef, undef, undef, undef, undef, undef])
    (.s [.c, .c, .v, .v, .c, .c, .c, .c, .v, .call (.bool (fitB a)), .v, .v] (.split 9 (.s [.u, .u, .u, .v, .c, .c, .c, .c, .v, .v, .c] (.ret [])) (.s [.v, .call (.bool (fitB b)), .v, .v, .c] (.split 13 (.s [.c, .c, .c, .v, .v, .c] (.ret [])) (.s [.c, .c, .c, .c, .v] (.big a (fun A5 c6 => .s [.v] (.big b (fun A7 c8 => .big (a + b) (fun A9 c10 => .s [.call (.tuple #[.int .i64 (toV (a + b)), .int .i64 (toE (a + b))]), .v, .v, .v, .v, .c] (.ret [])))))))))))
    (by kernel_rfl) hG hE Tryd.func34 (by kernel_rfl) (by kernel_rfl) (Eq.mpr (by kernel_rfl) h)
set_option maxRecDepth 1000000 in
set_option maxHeartbeats 8000000 in
theorem ref2_Add (a b : Int)  (w : World)  : Calls Tryd.prog 34 #[.int .i64 a, .int .i64 b] w (fun e w' => e = .returned (.tuple #[.int .i64 (bothV a b (a + b)), .int .i64 (bothE a b (a + b))]) ∧ Below w.heap.size w w') := by
  refine ref2_Add_plan a b w _ (St.refl w) Ex.nil ?_
  refine ⟨(CallV.of fun W hS => ref2_Fits a  W ), ?_⟩
  refine ⟨?_, ?_⟩
  · intro h10
    have h1 : (fitB a) = false := by simpa using h10
    refine ⟨trivial, ?_⟩
    have F := both_no1 (b := b) (z := a + b) h1
    exact fun W hS => ⟨by rw [F.1, F.2], hS.bl⟩
  · intro h20
    have h2 : (fitB a) = true := by simpa using h20
    refine ⟨(CallV.of fun W hS => ref2_Fits b  W ), ?_⟩
    refine ⟨?_, ?_⟩
    · intro h30
      have h3 : (fitB b) = false := by simpa using h30
      refine ⟨trivial, ?_⟩
      have F := both_no2 (a := a) (z := a + b) h3
      exact fun W hS => ⟨by rw [F.1, F.2], hS.bl⟩
    · intro h40
      have h4 : (fitB b) = true := by simpa using h40
      refine ⟨(fun W hS => ref_Of a (fitB_i64 h2) W), ?_⟩
      intro A5 c6
      have nA5 : nd a ≤ 4 := (nd_i64 (fitB_i64 h2))
      refine ⟨(fun W hS => ref_Of b (fitB_i64 h4) W), ?_⟩
      intro A7 c8
      have nA7 : nd b ≤ 4 := (nd_i64 (fitB_i64 h4))
      refine ⟨(fun W hS => ref_Add a b _ _ _ _ (Nat.le_trans nA5 (by decide)) (Nat.le_trans nA7 (by decide)) W (hS.rb 0 rfl) (hS.rb 1 rfl)), ?_⟩
      intro A9 c10
      have nA9 : nd (a + b) ≤ 5 := (by have h1 := nA5; have h2 := nA7; have h3 := nd_add a b; omega)
      refine ⟨(CallV.be fun W hS => ref2_To (a + b) _ _ (Nat.le_trans nA9 (by decide)) W (hS.rb 2 rfl)), trivial, ?_⟩
      have F := both_yes (z := a + b) h2 h4
      exact fun W hS => ⟨by rw [F.1, F.2], hS.bl⟩
end Go.Proofs.YtfbhcaocfajjpaaDoor

namespace Go.Proofs.YtfbhcaocfajjpaaDoor
open Go.RowKit
set_option linter.unusedSimpArgs false
set_option linter.unusedVariables false
end Go.Proofs.YtfbhcaocfajjpaaDoor
