/- Walks of layer 5 (sym): rows; the reference's places. -/
import Derived.Test.YtfbhcaocfajjpaaDoorSa
namespace Go.Proofs.YtfbhcaocfajjpaaDoor
open Go.RowKit
set_option linter.unusedSimpArgs false
set_option linter.unusedVariables false
attribute [local go_sem] nlt2 nlt3 nlt4 nlt5 nlt6 nlt7 nlt8 nlt9 nlt10 nlt11 nlt12
theorem szInt (h : 3 < Tryd.prog.types.size) : (Tryd.prog.types[3]'h).size = 1 := by kernel_rfl
theorem szI64 (h : 2 < Tryd.prog.types.size) : (Tryd.prog.types[2]'h).size = 1 := by kernel_rfl
theorem ix3_0 (a b c : Value) (w : World) : (Instr.index 71 (.agg #[a, b, c]) (.int .i64 0)).run Tryd.prog w = .ok a w := by kernel_rfl
theorem ix3_1 (a b c : Value) (w : World) : (Instr.index 71 (.agg #[a, b, c]) (.int .i64 1)).run Tryd.prog w = .ok b w := by kernel_rfl
theorem ix3_2 (a b c : Value) (w : World) : (Instr.index 71 (.agg #[a, b, c]) (.int .i64 2)).run Tryd.prog w = .ok c w := by kernel_rfl
attribute [local go_sem] szInt szI64 ix3_0 ix3_1 ix3_2

set_option maxRecDepth 100000 in
set_option maxHeartbeats 800000 in
theorem Place_00 (w : World) : Calls Tryd.prog 38 #[.int .i64 0, .int .i64 0] w fun e w' => e = .returned (.int .i64 0) ∧ w = w' := by
  go_enter Tryd.func38, Tryd.ntmps38
  go_wp2
  go_loop [5, 6] (fun v5 v6 => ∃ (k : Nat) (n : Int), k ≤ 0 ∧ v6 = .int .i64 k ∧ v5 = .int .i64 n ∧ Asd ((k = 0 → n = 0) ∧ (k = 1 → n = 3) ∧ (k = 2 → n = 5))) (fun _ v6 => 0 - (intOf v6).toNat)
  case atStart => exact ⟨0, 0, by omega, rfl, rfl, ⟨by omega⟩⟩
  case round =>
    obtain ⟨k, n, hk, rfl, rfl, HN⟩ := hrel
    obtain rfl : k = 0 := by omega
    obtain rfl : n = 0 := HN.out.1 rfl
    go_wp2
    go_ret
    exact ⟨rfl, rfl⟩
set_option maxRecDepth 100000 in
set_option maxHeartbeats 800000 in
theorem Place_01 (w : World) : Calls Tryd.prog 38 #[.int .i64 0, .int .i64 1] w fun e w' => e = .returned (.int .i64 1) ∧ w = w' := by
  go_enter Tryd.func38, Tryd.ntmps38
  go_wp2
  go_loop [5, 6] (fun v5 v6 => ∃ (k : Nat) (n : Int), k ≤ 0 ∧ v6 = .int .i64 k ∧ v5 = .int .i64 n ∧ Asd ((k = 0 → n = 0) ∧ (k = 1 → n = 3) ∧ (k = 2 → n = 5))) (fun _ v6 => 0 - (intOf v6).toNat)
  case atStart => exact ⟨0, 0, by omega, rfl, rfl, ⟨by omega⟩⟩
  case round =>
    obtain ⟨k, n, hk, rfl, rfl, HN⟩ := hrel
    obtain rfl : k = 0 := by omega
    obtain rfl : n = 0 := HN.out.1 rfl
    go_wp2
    go_ret
    exact ⟨rfl, rfl⟩
set_option maxRecDepth 100000 in
set_option maxHeartbeats 800000 in
theorem Place_02 (w : World) : Calls Tryd.prog 38 #[.int .i64 0, .int .i64 2] w fun e w' => e = .returned (.int .i64 2) ∧ w = w' := by
  go_enter Tryd.func38, Tryd.ntmps38
  go_wp2
  go_loop [5, 6] (fun v5 v6 => ∃ (k : Nat) (n : Int), k ≤ 0 ∧ v6 = .int .i64 k ∧ v5 = .int .i64 n ∧ Asd ((k = 0 → n = 0) ∧ (k = 1 → n = 3) ∧ (k = 2 → n = 5))) (fun _ v6 => 0 - (intOf v6).toNat)
  case atStart => exact ⟨0, 0, by omega, rfl, rfl, ⟨by omega⟩⟩
  case round =>
    obtain ⟨k, n, hk, rfl, rfl, HN⟩ := hrel
    obtain rfl : k = 0 := by omega
    obtain rfl : n = 0 := HN.out.1 rfl
    go_wp2
    go_ret
    exact ⟨rfl, rfl⟩
set_option maxRecDepth 100000 in
set_option maxHeartbeats 800000 in
theorem Place_10 (w : World) : Calls Tryd.prog 38 #[.int .i64 1, .int .i64 0] w fun e w' => e = .returned (.int .i64 1) ∧ w = w' := by
  go_enter Tryd.func38, Tryd.ntmps38
  go_wp2
  go_loop [5, 6] (fun v5 v6 => ∃ (k : Nat) (n : Int), k ≤ 0 ∧ v6 = .int .i64 k ∧ v5 = .int .i64 n ∧ Asd ((k = 0 → n = 0) ∧ (k = 1 → n = 3) ∧ (k = 2 → n = 5))) (fun _ v6 => 0 - (intOf v6).toNat)
  case atStart => exact ⟨0, 0, by omega, rfl, rfl, ⟨by omega⟩⟩
  case round =>
    obtain ⟨k, n, hk, rfl, rfl, HN⟩ := hrel
    obtain rfl : k = 0 := by omega
    obtain rfl : n = 0 := HN.out.1 rfl
    go_wp2
    go_ret
    exact ⟨rfl, rfl⟩
set_option maxRecDepth 100000 in
set_option maxHeartbeats 800000 in
theorem Place_11 (w : World) : Calls Tryd.prog 38 #[.int .i64 1, .int .i64 1] w fun e w' => e = .returned (.int .i64 3) ∧ w = w' := by
  go_enter Tryd.func38, Tryd.ntmps38
  go_wp2
  go_loop [5, 6] (fun v5 v6 => ∃ (k : Nat) (n : Int), k ≤ 1 ∧ v6 = .int .i64 k ∧ v5 = .int .i64 n ∧ Asd ((k = 0 → n = 0) ∧ (k = 1 → n = 3) ∧ (k = 2 → n = 5))) (fun _ v6 => 1 - (intOf v6).toNat)
  case atStart => exact ⟨0, 0, by omega, rfl, rfl, ⟨by omega⟩⟩
  case round =>
    obtain ⟨k, n, hk, rfl, rfl, HN⟩ := hrel
    rcases (by omega : k = 0 ∨ k = 1) with rfl | rfl
    · obtain rfl : n = 0 := HN.out.1 rfl
      go_wp2
      go_round
      case rel => exact ⟨1, 3, by omega, rfl, rfl, ⟨by omega⟩⟩
      case measure => simp [intOf]
    · obtain rfl : n = 3 := HN.out.2.1 rfl
      go_wp2
      go_ret
      exact ⟨rfl, rfl⟩
set_option maxRecDepth 100000 in
set_option maxHeartbeats 800000 in
theorem Place_12 (w : World) : Calls Tryd.prog 38 #[.int .i64 1, .int .i64 2] w fun e w' => e = .returned (.int .i64 4) ∧ w = w' := by
  go_enter Tryd.func38, Tryd.ntmps38
  go_wp2
  go_loop [5, 6] (fun v5 v6 => ∃ (k : Nat) (n : Int), k ≤ 1 ∧ v6 = .int .i64 k ∧ v5 = .int .i64 n ∧ Asd ((k = 0 → n = 0) ∧ (k = 1 → n = 3) ∧ (k = 2 → n = 5))) (fun _ v6 => 1 - (intOf v6).toNat)
  case atStart => exact ⟨0, 0, by omega, rfl, rfl, ⟨by omega⟩⟩
  case round =>
    obtain ⟨k, n, hk, rfl, rfl, HN⟩ := hrel
    rcases (by omega : k = 0 ∨ k = 1) with rfl | rfl
    · obtain rfl : n = 0 := HN.out.1 rfl
      go_wp2
      go_round
      case rel => exact ⟨1, 3, by omega, rfl, rfl, ⟨by omega⟩⟩
      case measure => simp [intOf]
    · obtain rfl : n = 3 := HN.out.2.1 rfl
      go_wp2
      go_ret
      exact ⟨rfl, rfl⟩
set_option maxRecDepth 100000 in
set_option maxHeartbeats 800000 in
theorem Place_20 (w : World) : Calls Tryd.prog 38 #[.int .i64 2, .int .i64 0] w fun e w' => e = .returned (.int .i64 2) ∧ w = w' := by
  go_enter Tryd.func38, Tryd.ntmps38
  go_wp2
  go_loop [5, 6] (fun v5 v6 => ∃ (k : Nat) (n : Int), k ≤ 0 ∧ v6 = .int .i64 k ∧ v5 = .int .i64 n ∧ Asd ((k = 0 → n = 0) ∧ (k = 1 → n = 3) ∧ (k = 2 → n = 5))) (fun _ v6 => 0 - (intOf v6).toNat)
  case atStart => exact ⟨0, 0, by omega, rfl, rfl, ⟨by omega⟩⟩
  case round =>
    obtain ⟨k, n, hk, rfl, rfl, HN⟩ := hrel
    obtain rfl : k = 0 := by omega
    obtain rfl : n = 0 := HN.out.1 rfl
    go_wp2
    go_ret
    exact ⟨rfl, rfl⟩
set_option maxRecDepth 100000 in
set_option maxHeartbeats 800000 in
theorem Place_21 (w : World) : Calls Tryd.prog 38 #[.int .i64 2, .int .i64 1] w fun e w' => e = .returned (.int .i64 4) ∧ w = w' := by
  go_enter Tryd.func38, Tryd.ntmps38
  go_wp2
  go_loop [5, 6] (fun v5 v6 => ∃ (k : Nat) (n : Int), k ≤ 1 ∧ v6 = .int .i64 k ∧ v5 = .int .i64 n ∧ Asd ((k = 0 → n = 0) ∧ (k = 1 → n = 3) ∧ (k = 2 → n = 5))) (fun _ v6 => 1 - (intOf v6).toNat)
  case atStart => exact ⟨0, 0, by omega, rfl, rfl, ⟨by omega⟩⟩
  case round =>
    obtain ⟨k, n, hk, rfl, rfl, HN⟩ := hrel
    rcases (by omega : k = 0 ∨ k = 1) with rfl | rfl
    · obtain rfl : n = 0 := HN.out.1 rfl
      go_wp2
      go_round
      case rel => exact ⟨1, 3, by omega, rfl, rfl, ⟨by omega⟩⟩
      case measure => simp [intOf]
    · obtain rfl : n = 3 := HN.out.2.1 rfl
      go_wp2
      go_ret
      exact ⟨rfl, rfl⟩
set_option maxRecDepth 100000 in
set_option maxHeartbeats 800000 in
theorem Place_22 (w : World) : Calls Tryd.prog 38 #[.int .i64 2, .int .i64 2] w fun e w' => e = .returned (.int .i64 5) ∧ w = w' := by
  go_enter Tryd.func38, Tryd.ntmps38
  go_wp2
  go_loop [5, 6] (fun v5 v6 => ∃ (k : Nat) (n : Int), k ≤ 2 ∧ v6 = .int .i64 k ∧ v5 = .int .i64 n ∧ Asd ((k = 0 → n = 0) ∧ (k = 1 → n = 3) ∧ (k = 2 → n = 5))) (fun _ v6 => 2 - (intOf v6).toNat)
  case atStart => exact ⟨0, 0, by omega, rfl, rfl, ⟨by omega⟩⟩
  case round =>
    obtain ⟨k, n, hk, rfl, rfl, HN⟩ := hrel
    rcases (by omega : k = 0 ∨ k = 1 ∨ k = 2) with rfl | rfl | rfl
    · obtain rfl : n = 0 := HN.out.1 rfl
      go_wp2
      go_round
      case rel => exact ⟨1, 3, by omega, rfl, rfl, ⟨by omega⟩⟩
      case measure => simp [intOf]
    · obtain rfl : n = 3 := HN.out.2.1 rfl
      go_wp2
      go_round
      case rel => exact ⟨2, 5, by omega, rfl, rfl, ⟨by omega⟩⟩
      case measure => simp [intOf]
    · obtain rfl : n = 5 := HN.out.2.2 rfl
      go_wp2
      go_ret
      exact ⟨rfl, rfl⟩
set_option maxHeartbeats 800000 in
theorem Place_out (i j : Int) (h : outP i j) (w : World) : Calls Tryd.prog 38 #[.int .i64 i, .int .i64 j] w fun e w' => e = .returned (.int .i64 (-1)) ∧ w = w' := by
  unfold outP at h
  by_cases k1 : i < 0
  · go_enter Tryd.func38, Tryd.ntmps38
    go_wp2
    go_ret
    exact ⟨rfl, rfl⟩
  · by_cases k3 : j < 0
    · clear h
      go_enter Tryd.func38, Tryd.ntmps38
      go_wp2
      go_ret
      exact ⟨rfl, rfl⟩
    · by_cases k2 : 2 < i
      · clear h
        go_enter Tryd.func38, Tryd.ntmps38
        go_wp2
        go_ret
        exact ⟨rfl, rfl⟩
      · have k4 : 2 < j := by omega
        clear h
        go_enter Tryd.func38, Tryd.ntmps38
        go_wp2
        go_ret
        exact ⟨rfl, rfl⟩
def rowC0 (m : Nat → Int) : Nat → List Value
  | 0 => [.int .i64 0, .int .i64 0, .int .i64 0]
  | 1 => [.int .i64 (m 0), .int .i64 0, .int .i64 0]
  | 2 => [.int .i64 (m 0), .int .i64 (m 1), .int .i64 0]
  | _ => [.int .i64 (m 0), .int .i64 (m 1), .int .i64 (m 2)]
set_option maxRecDepth 100000 in
set_option maxHeartbeats 2000000 in
theorem Row_0 (m : Nat → Int) (w : World) (hg : GP w) : Calls Tryd.prog 35 #[.agg #[.int .i64 (m 0), .int .i64 (m 1), .int .i64 (m 2), .int .i64 (m 3), .int .i64 (m 4), .int .i64 (m 5)], .int .i64 0] w fun e w' => e = .returned (.tuple #[.agg #[.int .i64 (m 0), .int .i64 (m 1), .int .i64 (m 2)], .int .i64 0]) ∧ Below w.heap.size w w' := by
  have S0 := Asd.mk (St.refl w)
  obtain ⟨g0, g1, g2, g3, g4, g5, g6, g7, g8⟩ := hg
  have hlt := World.block_lt_of_cell? w _ g0
  go_enter Tryd.func35, Tryd.ntmps35
  go_wp2
  go_loopw [19] (fun v19 wr => ∃ k : Int, (k = 0 ∨ k = 1 ∨ k = 2 ∨ k = 3) ∧ v19 = .int .i64 k ∧ Asd (St w wr [(w.heap.size + 1 + 1, rowC0 m k.toNat), (w.heap.size + 1, [.int .i64 0, .int .i64 0, .int .i64 0]), (w.heap.size, [.int .i64 (m 0), .int .i64 (m 1), .int .i64 (m 2), .int .i64 (m 3), .int .i64 (m 4), .int .i64 (m 5)])] [])) (fun v19 _ => 3 - (intOf v19).toNat)
  case atStart => exact ⟨0, .inl rfl, rfl, ⟨St.of (by repeat (first | exact Below.refl _ _ | assumption | refine bl_alloc ?_ _ | refine bl_drewN ?_ _ | refine bl_drew ?_ | refine bl_set ?_ (by first | (simp; done) | (simp; omega) | (dsimp only; omega)) _ | refine bl_then ?_ (by assumption))) (by simp (maxDischargeDepth := 9) [facts, cellsAt, apart, go_sem, show (0 : Int).toNat = 0 from rfl, rowC0]; try omega) (by simp [low]; try omega) trivial⟩⟩
  case round =>
    obtain ⟨k, hk, rfl, S1⟩ := hrel
    have C1 := S1.out.facts
    rcases hk with rfl | rfl | rfl | rfl
    · simp only [show (0 : Int).toNat = 0 from rfl, rowC0] at C1
      simp only [facts, apart, cellsAt, Nat.zero_add, Nat.reduceAdd, and_true] at C1
      go_wp2
      go_roundw
      case rel => exact ⟨1, by decide, rfl, ⟨St.set S1.out 0 0 rfl (by simp [rowC0]) (.inl rfl) _⟩⟩
      case measure => simp [intOf]
    · simp only [show (1 : Int).toNat = 1 from rfl, rowC0] at C1
      simp only [facts, apart, cellsAt, Nat.zero_add, Nat.reduceAdd, and_true] at C1
      go_wp2
      go_roundw
      case rel => exact ⟨2, by decide, rfl, ⟨St.set S1.out 0 1 rfl (by simp [rowC0]) (.inl rfl) _⟩⟩
      case measure => simp [intOf]
    · simp only [show (2 : Int).toNat = 2 from rfl, rowC0] at C1
      simp only [facts, apart, cellsAt, Nat.zero_add, Nat.reduceAdd, and_true] at C1
      go_wp2
      go_roundw
      case rel => exact ⟨3, by decide, rfl, ⟨St.set S1.out 0 2 rfl (by simp [rowC0]) (.inl rfl) _⟩⟩
      case measure => simp [intOf]
    · simp only [show (3 : Int).toNat = 3 from rfl, rowC0] at C1
      simp only [facts, apart, cellsAt, Nat.zero_add, Nat.reduceAdd, and_true] at C1
      go_wp2
      have HBf := S1.out.bl
      refine bodyPost_ret (v := .tuple #[.agg #[.int .i64 (m 0), .int .i64 (m 1), .int .i64 (m 2)], .int .i64 0]) (by simp (maxDischargeDepth := 9) [results, Tryd.results35, go_sem, *]) rfl ⟨rfl, (by repeat (first | exact Below.refl _ _ | assumption | refine bl_alloc ?_ _ | refine bl_drewN ?_ _ | refine bl_drew ?_ | refine bl_set ?_ (by first | (simp; done) | (simp; omega) | (dsimp only; omega)) _ | refine bl_then ?_ (by assumption)))⟩
def rowC1 (m : Nat → Int) : Nat → List Value
  | 0 => [.int .i64 0, .int .i64 0, .int .i64 0]
  | 1 => [.int .i64 (m 1), .int .i64 0, .int .i64 0]
  | 2 => [.int .i64 (m 1), .int .i64 (m 3), .int .i64 0]
  | _ => [.int .i64 (m 1), .int .i64 (m 3), .int .i64 (m 4)]
set_option maxRecDepth 100000 in
set_option maxHeartbeats 2000000 in
theorem Row_1 (m : Nat → Int) (w : World) (hg : GP w) : Calls Tryd.prog 35 #[.agg #[.int .i64 (m 0), .int .i64 (m 1), .int .i64 (m 2), .int .i64 (m 3), .int .i64 (m 4), .int .i64 (m 5)], .int .i64 1] w fun e w' => e = .returned (.tuple #[.agg #[.int .i64 (m 1), .int .i64 (m 3), .int .i64 (m 4)], .int .i64 0]) ∧ Below w.heap.size w w' := by
  have S0 := Asd.mk (St.refl w)
  obtain ⟨g0, g1, g2, g3, g4, g5, g6, g7, g8⟩ := hg
  have hlt := World.block_lt_of_cell? w _ g0
  go_enter Tryd.func35, Tryd.ntmps35
  go_wp2
  go_loopw [19] (fun v19 wr => ∃ k : Int, (k = 0 ∨ k = 1 ∨ k = 2 ∨ k = 3) ∧ v19 = .int .i64 k ∧ Asd (St w wr [(w.heap.size + 1 + 1, rowC1 m k.toNat), (w.heap.size + 1, [.int .i64 0, .int .i64 0, .int .i64 0]), (w.heap.size, [.int .i64 (m 0), .int .i64 (m 1), .int .i64 (m 2), .int .i64 (m 3), .int .i64 (m 4), .int .i64 (m 5)])] [])) (fun v19 _ => 3 - (intOf v19).toNat)
  case atStart => exact ⟨0, .inl rfl, rfl, ⟨St.of (by repeat (first | exact Below.refl _ _ | assumption | refine bl_alloc ?_ _ | refine bl_drewN ?_ _ | refine bl_drew ?_ | refine bl_set ?_ (by first | (simp; done) | (simp; omega) | (dsimp only; omega)) _ | refine bl_then ?_ (by assumption))) (by simp (maxDischargeDepth := 9) [facts, cellsAt, apart, go_sem, show (0 : Int).toNat = 0 from rfl, rowC1]; try omega) (by simp [low]; try omega) trivial⟩⟩
  case round =>
    obtain ⟨k, hk, rfl, S1⟩ := hrel
    have C1 := S1.out.facts
    rcases hk with rfl | rfl | rfl | rfl
    · simp only [show (0 : Int).toNat = 0 from rfl, rowC1] at C1
      simp only [facts, apart, cellsAt, Nat.zero_add, Nat.reduceAdd, and_true] at C1
      go_wp2
      go_roundw
      case rel => exact ⟨1, by decide, rfl, ⟨St.set S1.out 0 0 rfl (by simp [rowC1]) (.inl rfl) _⟩⟩
      case measure => simp [intOf]
    · simp only [show (1 : Int).toNat = 1 from rfl, rowC1] at C1
      simp only [facts, apart, cellsAt, Nat.zero_add, Nat.reduceAdd, and_true] at C1
      go_wp2
      go_roundw
      case rel => exact ⟨2, by decide, rfl, ⟨St.set S1.out 0 1 rfl (by simp [rowC1]) (.inl rfl) _⟩⟩
      case measure => simp [intOf]
    · simp only [show (2 : Int).toNat = 2 from rfl, rowC1] at C1
      simp only [facts, apart, cellsAt, Nat.zero_add, Nat.reduceAdd, and_true] at C1
      go_wp2
      go_roundw
      case rel => exact ⟨3, by decide, rfl, ⟨St.set S1.out 0 2 rfl (by simp [rowC1]) (.inl rfl) _⟩⟩
      case measure => simp [intOf]
    · simp only [show (3 : Int).toNat = 3 from rfl, rowC1] at C1
      simp only [facts, apart, cellsAt, Nat.zero_add, Nat.reduceAdd, and_true] at C1
      go_wp2
      have HBf := S1.out.bl
      refine bodyPost_ret (v := .tuple #[.agg #[.int .i64 (m 1), .int .i64 (m 3), .int .i64 (m 4)], .int .i64 0]) (by simp (maxDischargeDepth := 9) [results, Tryd.results35, go_sem, *]) rfl ⟨rfl, (by repeat (first | exact Below.refl _ _ | assumption | refine bl_alloc ?_ _ | refine bl_drewN ?_ _ | refine bl_drew ?_ | refine bl_set ?_ (by first | (simp; done) | (simp; omega) | (dsimp only; omega)) _ | refine bl_then ?_ (by assumption)))⟩
def rowC2 (m : Nat → Int) : Nat → List Value
  | 0 => [.int .i64 0, .int .i64 0, .int .i64 0]
  | 1 => [.int .i64 (m 2), .int .i64 0, .int .i64 0]
  | 2 => [.int .i64 (m 2), .int .i64 (m 4), .int .i64 0]
  | _ => [.int .i64 (m 2), .int .i64 (m 4), .int .i64 (m 5)]
set_option maxRecDepth 100000 in
set_option maxHeartbeats 2000000 in
theorem Row_2 (m : Nat → Int) (w : World) (hg : GP w) : Calls Tryd.prog 35 #[.agg #[.int .i64 (m 0), .int .i64 (m 1), .int .i64 (m 2), .int .i64 (m 3), .int .i64 (m 4), .int .i64 (m 5)], .int .i64 2] w fun e w' => e = .returned (.tuple #[.agg #[.int .i64 (m 2), .int .i64 (m 4), .int .i64 (m 5)], .int .i64 0]) ∧ Below w.heap.size w w' := by
  have S0 := Asd.mk (St.refl w)
  obtain ⟨g0, g1, g2, g3, g4, g5, g6, g7, g8⟩ := hg
  have hlt := World.block_lt_of_cell? w _ g0
  go_enter Tryd.func35, Tryd.ntmps35
  go_wp2
  go_loopw [19] (fun v19 wr => ∃ k : Int, (k = 0 ∨ k = 1 ∨ k = 2 ∨ k = 3) ∧ v19 = .int .i64 k ∧ Asd (St w wr [(w.heap.size + 1 + 1, rowC2 m k.toNat), (w.heap.size + 1, [.int .i64 0, .int .i64 0, .int .i64 0]), (w.heap.size, [.int .i64 (m 0), .int .i64 (m 1), .int .i64 (m 2), .int .i64 (m 3), .int .i64 (m 4), .int .i64 (m 5)])] [])) (fun v19 _ => 3 - (intOf v19).toNat)
  case atStart => exact ⟨0, .inl rfl, rfl, ⟨St.of (by repeat (first | exact Below.refl _ _ | assumption | refine bl_alloc ?_ _ | refine bl_drewN ?_ _ | refine bl_drew ?_ | refine bl_set ?_ (by first | (simp; done) | (simp; omega) | (dsimp only; omega)) _ | refine bl_then ?_ (by assumption))) (by simp (maxDischargeDepth := 9) [facts, cellsAt, apart, go_sem, show (0 : Int).toNat = 0 from rfl, rowC2]; try omega) (by simp [low]; try omega) trivial⟩⟩
  case round =>
    obtain ⟨k, hk, rfl, S1⟩ := hrel
    have C1 := S1.out.facts
    rcases hk with rfl | rfl | rfl | rfl
    · simp only [show (0 : Int).toNat = 0 from rfl, rowC2] at C1
      simp only [facts, apart, cellsAt, Nat.zero_add, Nat.reduceAdd, and_true] at C1
      go_wp2
      go_roundw
      case rel => exact ⟨1, by decide, rfl, ⟨St.set S1.out 0 0 rfl (by simp [rowC2]) (.inl rfl) _⟩⟩
      case measure => simp [intOf]
    · simp only [show (1 : Int).toNat = 1 from rfl, rowC2] at C1
      simp only [facts, apart, cellsAt, Nat.zero_add, Nat.reduceAdd, and_true] at C1
      go_wp2
      go_roundw
      case rel => exact ⟨2, by decide, rfl, ⟨St.set S1.out 0 1 rfl (by simp [rowC2]) (.inl rfl) _⟩⟩
      case measure => simp [intOf]
    · simp only [show (2 : Int).toNat = 2 from rfl, rowC2] at C1
      simp only [facts, apart, cellsAt, Nat.zero_add, Nat.reduceAdd, and_true] at C1
      go_wp2
      go_roundw
      case rel => exact ⟨3, by decide, rfl, ⟨St.set S1.out 0 2 rfl (by simp [rowC2]) (.inl rfl) _⟩⟩
      case measure => simp [intOf]
    · simp only [show (3 : Int).toNat = 3 from rfl, rowC2] at C1
      simp only [facts, apart, cellsAt, Nat.zero_add, Nat.reduceAdd, and_true] at C1
      go_wp2
      have HBf := S1.out.bl
      refine bodyPost_ret (v := .tuple #[.agg #[.int .i64 (m 2), .int .i64 (m 4), .int .i64 (m 5)], .int .i64 0]) (by simp (maxDischargeDepth := 9) [results, Tryd.results35, go_sem, *]) rfl ⟨rfl, (by repeat (first | exact Below.refl _ _ | assumption | refine bl_alloc ?_ _ | refine bl_drewN ?_ _ | refine bl_drew ?_ | refine bl_set ?_ (by first | (simp; done) | (simp; omega) | (dsimp only; omega)) _ | refine bl_then ?_ (by assumption)))⟩
set_option maxHeartbeats 800000 in
theorem Row_out (m : Nat → Int) (i : Int) (h : i < 0 ∨ 2 < i) (w : World) : Calls Tryd.prog 35 #[.agg #[.int .i64 (m 0), .int .i64 (m 1), .int .i64 (m 2), .int .i64 (m 3), .int .i64 (m 4), .int .i64 (m 5)], .int .i64 i] w fun e w' => e = .returned (.tuple #[.agg #[.int .i64 0, .int .i64 0, .int .i64 0], .int .i64 2]) ∧ Below w.heap.size w w' := by
  by_cases k1 : i < 0
  · go_enter Tryd.func35, Tryd.ntmps35
    go_wp2
    refine bodyPost_ret (v := .tuple #[.agg #[.int .i64 0, .int .i64 0, .int .i64 0], .int .i64 2]) (by simp (maxDischargeDepth := 9) [results, Tryd.results35, go_sem, *]) rfl ⟨rfl, (by repeat (first | exact Below.refl _ _ | assumption | refine bl_alloc ?_ _ | refine bl_drewN ?_ _ | refine bl_drew ?_ | refine bl_set ?_ (by first | (simp; done) | (simp; omega) | (dsimp only; omega)) _ | refine bl_then ?_ (by assumption)))⟩
  · have k2 : 2 < i := by omega
    clear h
    go_enter Tryd.func35, Tryd.ntmps35
    go_wp2
    refine bodyPost_ret (v := .tuple #[.agg #[.int .i64 0, .int .i64 0, .int .i64 0], .int .i64 2]) (by simp (maxDischargeDepth := 9) [results, Tryd.results35, go_sem, *]) rfl ⟨rfl, (by repeat (first | exact Below.refl _ _ | assumption | refine bl_alloc ?_ _ | refine bl_drewN ?_ _ | refine bl_drew ?_ | refine bl_set ?_ (by first | (simp; done) | (simp; omega) | (dsimp only; omega)) _ | refine bl_then ?_ (by assumption)))⟩
end Go.Proofs.YtfbhcaocfajjpaaDoor
