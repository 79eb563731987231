/- Walks of layer 5 (sym): rows; the reference's places. -/
import Derived.Test.YtfbhcaocfajjpaaDoorQSa
namespace Go.Proofs.YtfbhcaocfajjpaaDoor
open Go.RowKit
set_option linter.unusedSimpArgs false
set_option linter.unusedVariables false
attribute [local go_sem] nlt2 nlt3 nlt4 nlt5 nlt6 nlt7 nlt8 nlt9 nlt10 nlt11 nlt12
theorem szInt (h : 3 < Tryd.prog.types.size) : (Tryd.prog.types[3]'h).size = 1 := by kernel_rfl
theorem szI64 (h : 2 < Tryd.prog.types.size) : (Tryd.prog.types[2]'h).size = 1 := by kernel_rfl
theorem ix3_0 (a b c : Value) (w : World) : (Instr.index 71 (.agg #[a, b, c]) (.int .i64 0)).run Tryd.prog w = .ok a w := by kernel_rfl
theorem ix3_1 (a b c : Value) (w : World) : (Instr.index 71 (.agg #[a, b, c]) (.int .i64 1)).run Tryd.prog w = .ok b w := by kernel_rfl
theorem ix3_2 (a b c : Value) (w : World) : (Instr.index 71 (.agg #[a, b, c]) (.int .i64 2)).run Tryd.prog w = .ok c w := by kernel_rfl
attribute [local go_sem] szInt szI64 ix3_0 ix3_1 ix3_2

set_option maxRecDepth 100000 in
set_option maxHeartbeats 800000 in
theorem Place_00 (w : World) : Calls Tryd.prog 38 #[.int .i64 0, .int .i64 0] w fun e w' => e = .returned (.int .i64 0) ∧ w = w' := by
  go_enter Tryd.func38, Tryd.ntmps38
  go_wp2
  go_loop [5, 6] (fun v5 v6 => ∃ (k : Nat) (n : Int), k ≤ 0 ∧ v6 = .int .i64 k ∧ v5 = .int .i64 n ∧ Asd ((k = 0 → n = 0) ∧ (k = 1 → n = 3) ∧ (k = 2 → n = 5))) (fun _ v6 => 0 - (intOf v6).toNat)
  case atStart => exact ⟨0, 0, by omega, rfl, rfl, ⟨by omega⟩⟩
  case round =>
    obtain ⟨k, n, hk, rfl, rfl, HN⟩ := hrel
    obtain rfl : k = 0 := by omega
    obtain rfl : n = 0 := HN.out.1 rfl
    go_wp2
    go_ret
    exact ⟨rfl, rfl⟩
set_option maxRecDepth 100000 in
set_option maxHeartbeats 800000 in
theorem Place_01 (w : World) : Calls Tryd.prog 38 #[.int .i64 0, .int .i64 1] w fun e w' => e = .returned (.int .i64 1) ∧ w = w' := by
  go_enter Tryd.func38, Tryd.ntmps38
  go_wp2
  go_loop [5, 6] (fun v5 v6 => ∃ (k : Nat) (n : Int), k ≤ 0 ∧ v6 = .int .i64 k ∧ v5 = .int .i64 n ∧ Asd ((k = 0 → n = 0) ∧ (k = 1 → n = 3) ∧ (k = 2 → n = 5))) (fun _ v6 => 0 - (intOf v6).toNat)
  case atStart => exact ⟨0, 0, by omega, rfl, rfl, ⟨by omega⟩⟩
  case round =>
    obtain ⟨k, n, hk, rfl, rfl, HN⟩ := hrel
    obtain rfl : k = 0 := by omega
    obtain rfl : n = 0 := HN.out.1 rfl
    go_wp2
    go_ret
    exact ⟨rfl, rfl⟩
set_option maxRecDepth 100000 in
set_option maxHeartbeats 800000 in
theorem Place_02 (w : World) : Calls Tryd.prog 38 #[.int .i64 0, .int .i64 2] w fun e w' => e = .returned (.int .i64 2) ∧ w = w' := by
  go_enter Tryd.func38, Tryd.ntmps38
  go_wp2
  go_loop [5, 6] (fun v5 v6 => ∃ (k : Nat) (n : Int), k ≤ 0 ∧ v6 = .int .i64 k ∧ v5 = .int .i64 n ∧ Asd ((k = 0 → n = 0) ∧ (k = 1 → n = 3) ∧ (k = 2 → n = 5))) (fun _ v6 => 0 - (intOf v6).toNat)
  case atStart => exact ⟨0, 0, by omega, rfl, rfl, ⟨by omega⟩⟩
  case round =>
    obtain ⟨k, n, hk, rfl, rfl, HN⟩ := hrel
    obtain rfl : k = 0 := by omega
    obtain rfl : n = 0 := HN.out.1 rfl
    go_wp2
    go_ret
    exact ⟨rfl, rfl⟩
set_option maxRecDepth 100000 in
set_option maxHeartbeats 800000 in
theorem Place_10 (w : World) : Calls Tryd.prog 38 #[.int .i64 1, .int .i64 0] w fun e w' => e = .returned (.int .i64 1) ∧ w = w' := by
  go_enter Tryd.func38, Tryd.ntmps38
  go_wp2
  go_loop [5, 6] (fun v5 v6 => ∃ (k : Nat) (n : Int), k ≤ 0 ∧ v6 = .int .i64 k ∧ v5 = .int .i64 n ∧ Asd ((k = 0 → n = 0) ∧ (k = 1 → n = 3) ∧ (k = 2 → n = 5))) (fun _ v6 => 0 - (intOf v6).toNat)
  case atStart => exact ⟨0, 0, by omega, rfl, rfl, ⟨by omega⟩⟩
  case round =>
    obtain ⟨k, n, hk, rfl, rfl, HN⟩ := hrel
    obtain rfl : k = 0 := by omega
    obtain rfl : n = 0 := HN.out.1 rfl
    go_wp2
    go_ret
    exact ⟨rfl, rfl⟩
set_option maxRecDepth 100000 in
set_option maxHeartbeats 800000 in
theorem Place_11 (w : World) : Calls Tryd.prog 38 #[.int .i64 1, .int .i64 1] w fun e w' => e = .returned (.int .i64 3) ∧ w = w' := by
  go_enter Tryd.func38, Tryd.ntmps38
  go_wp2
  go_loop [5, 6] (fun v5 v6 => ∃ (k : Nat) (n : Int), k ≤ 1 ∧ v6 = .int .i64 k ∧ v5 = .int .i64 n ∧ Asd ((k = 0 → n = 0) ∧ (k = 1 → n = 3) ∧ (k = 2 → n = 5))) (fun _ v6 => 1 - (intOf v6).toNat)
  case atStart => exact ⟨0, 0, by omega, rfl, rfl, ⟨by omega⟩⟩
  case round =>
    obtain ⟨k, n, hk, rfl, rfl, HN⟩ := hrel
    rcases (by omega : k = 0 ∨ k = 1) with rfl | rfl
    · obtain rfl : n = 0 := HN.out.1 rfl
      go_wp2
      go_round
      case rel => exact ⟨1, 3, by omega, rfl, rfl, ⟨by omega⟩⟩
      case measure => simp [intOf]
    · obtain rfl : n = 3 := HN.out.2.1 rfl
      go_wp2
      go_ret
      exact ⟨rfl, rfl⟩
set_option maxRecDepth 100000 in
set_option maxHeartbeats 800000 in
theorem Place_12 (w : World) : Calls Tryd.prog 38 #[.int .i64 1, .int .i64 2] w fun e w' => e = .returned (.int .i64 4) ∧ w = w' := by
  go_enter Tryd.func38, Tryd.ntmps38
  go_wp2
  go_loop [5, 6] (fun v5 v6 => ∃ (k : Nat) (n : Int), k ≤ 1 ∧ v6 = .int .i64 k ∧ v5 = .int .i64 n ∧ Asd ((k = 0 → n = 0) ∧ (k = 1 → n = 3) ∧ (k = 2 → n = 5))) (fun _ v6 => 1 - (intOf v6).toNat)
  case atStart => exact ⟨0, 0, by omega, rfl, rfl, ⟨by omega⟩⟩
  case round =>
    obtain ⟨k, n, hk, rfl, rfl, HN⟩ := hrel
    rcases (by omega : k = 0 ∨ k = 1) with rfl | rfl
    · obtain rfl : n = 0 := HN.out.1 rfl
      go_wp2
      go_round
      case rel => exact ⟨1, 3, by omega, rfl, rfl, ⟨by omega⟩⟩
      case measure => simp [intOf]
    · obtain rfl : n = 3 := HN.out.2.1 rfl
      go_wp2
      go_ret
      exact ⟨rfl, rfl⟩
set_option maxRecDepth 100000 in
set_option maxHeartbeats 800000 in
theorem Place_20 (w : World) : Calls Tryd.prog 38 #[.int .i64 2, .int .i64 0] w fun e w' => e = .returned (.int .i64 2) ∧ w = w' := by
  go_enter Tryd.func38, Tryd.ntmps38
  go_wp2
  go_loop [5, 6] (fun v5 v6 => ∃ (k : Nat) (n : Int), k ≤ 0 ∧ v6 = .int .i64 k ∧ v5 = .int .i64 n ∧ Asd ((k = 0 → n = 0) ∧ (k = 1 → n = 3) ∧ (k = 2 → n = 5))) (fun _ v6 => 0 - (intOf v6).toNat)
  case atStart => exact ⟨0, 0, by omega, rfl, rfl, ⟨by omega⟩⟩
  case round =>
    obtain ⟨k, n, hk, rfl, rfl, HN⟩ := hrel
    obtain rfl : k = 0 := by omega
    obtain rfl : n = 0 := HN.out.1 rfl
    go_wp2
    go_ret
    exact ⟨rfl, rfl⟩
set_option maxRecDepth 100000 in
set_option maxHeartbeats 800000 in
theorem Place_21 (w : World) : Calls Tryd.prog 38 #[.int .i64 2, .int .i64 1] w fun e w' => e = .returned (.int .i64 4) ∧ w = w' := by
  go_enter Tryd.func38, Tryd.ntmps38
  go_wp2
  go_loop [5, 6] (fun v5 v6 => ∃ (k : Nat) (n : Int), k ≤ 1 ∧ v6 = .int .i64 k ∧ v5 = .int .i64 n ∧ Asd ((k = 0 → n = 0) ∧ (k = 1 → n = 3) ∧ (k = 2 → n = 5))) (fun _ v6 => 1 - (intOf v6).toNat)
  case atStart => exact ⟨0, 0, by omega, rfl, rfl, ⟨by omega⟩⟩
  case round =>
    obtain ⟨k, n, hk, rfl, rfl, HN⟩ := hrel
    rcases (by omega : k = 0 ∨ k = 1) with rfl | rfl
    · obtain rfl : n = 0 := HN.out.1 rfl
      go_wp2
      go_round
      case rel => exact ⟨1, 3, by omega, rfl, rfl, ⟨by omega⟩⟩
      case measure => simp [intOf]
    · obtain rfl : n = 3 := HN.out.2.1 rfl
      go_wp2
      go_ret
      exact ⟨rfl, rfl⟩
set_option maxRecDepth 100000 in
set_option maxHeartbeats 800000 in
theorem Place_22 (w : World) : Calls Tryd.prog 38 #[.int .i64 2, .int .i64 2] w fun e w' => e = .returned (.int .i64 5) ∧ w = w' := by
  go_enter Tryd.func38, Tryd.ntmps38
  go_wp2
  go_loop [5, 6] (fun v5 v6 => ∃ (k : Nat) (n : Int), k ≤ 2 ∧ v6 = .int .i64 k ∧ v5 = .int .i64 n ∧ Asd ((k = 0 → n = 0) ∧ (k = 1 → n = 3) ∧ (k = 2 → n = 5))) (fun _ v6 => 2 - (intOf v6).toNat)
  case atStart => exact ⟨0, 0, by omega, rfl, rfl, ⟨by omega⟩⟩
  case round =>
    obtain ⟨k, n, hk, rfl, rfl, HN⟩ := hrel
    rcases (by omega : k = 0 ∨ k = 1 ∨ k = 2) with rfl | rfl | rfl
    · obtain rfl : n = 0 := HN.out.1 rfl
      go_wp2
      go_round
      case rel => exact ⟨1, 3, by omega, rfl, rfl, ⟨by omega⟩⟩
      case measure => simp [intOf]
    · obtain rfl : n = 3 := HN.out.2.1 rfl
      go_wp2
      go_round
      case rel => exact ⟨2, 5, by omega, rfl, rfl, ⟨by omega⟩⟩
      case measure => simp [intOf]
    · obtain rfl : n = 5 := HN.out.2.2 rfl
      go_wp2
      go_ret
      exact ⟨rfl, rfl⟩
end Go.Proofs.YtfbhcaocfajjpaaDoor
