/- Walks of layer 9 (tame): whether a floor and a ceiling may be, in the program and in the document's answer. -/
import Derived.Test.YtlinfennhfphiaaDoorFp
import Derived.Test.YtlinfennhfphiaaDoorFf
import Derived.Test.YtlinfennhfphiaaDoorSv
import Derived.Deep.QuietTactic
import Derived.BigQuiet
namespace Go.Proofs.YtlinfennhfphiaaDoor
open Go.RowKit
set_option linter.unusedSimpArgs false
set_option linter.unusedVariables false
attribute [local go_sem] nlt2 nlt3 nlt4 nlt5 nlt6 nlt7 nlt8 nlt9 nlt10 nlt11 nlt12
theorem may1_true {f g : Int} (h : may1 f g = true) : decide (f < 0) = false ∧ decide (g < f) = false ∧ fitB g = true := by
  have := of_decide_eq_true h; simp [fitB]; omega
theorem may1_false {f g : Int} (h : may1 f g = false) : decide (f < 0) = true ∨ (decide (f < 0) = false ∧ decide (g < f) = true) ∨ (decide (f < 0) = false ∧ decide (g < f) = false ∧ fitB g = false) := by
  have := of_decide_eq_false h; simp [fitB]; omega
set_option maxRecDepth 100000 in
set_option maxHeartbeats 4000000 in
theorem tame_May (f g : Nat → Int) (w : World) : Calls Tryd.prog 22 #[.agg #[.int .i64 (f 0), .int .i64 (f 1), .int .i64 (f 2)], .agg #[.int .i64 (g 0), .int .i64 (g 1), .int .i64 (g 2)]] w fun e w' => e = .returned (.bool (mayB f g)) ∧ Below w.heap.size w w' := by
  have S0 := Asd.mk (St.refl w)
  cases h0 : may1 (f 0) (g 0)
  · go_enter Tryd.func22, Tryd.ntmps22
    go_wp2
    go_loopw [6] (fun v6 wr => ∃ k : Int, (k = 0) ∧ v6 = .int .i64 k ∧ Asd (St w wr [(w.heap.size + 1, [.int .i64 (g 0), .int .i64 (g 1), .int .i64 (g 2)]), (w.heap.size, [.int .i64 (f 0), .int .i64 (f 1), .int .i64 (f 2)])] [])) (fun v6 _ => 3 - (intOf v6).toNat)
    case atStart => exact ⟨0, by decide, rfl, ⟨by refine St.layAt (by simp; done) ?_; refine St.layAt (by simp; done) ?_; exact S0.out⟩⟩
    case round =>
      obtain ⟨k, hk, rfl, S1⟩ := hrel
      have C1 := S1.out.facts
      simp only [facts, apart, cellsAt, Nat.zero_add, Nat.reduceAdd, and_true] at C1
      obtain rfl := hk
      rcases may1_false h0 with a1 | ⟨a1, a2⟩ | ⟨a1, a2, a3⟩
      all_goals (go_wp2; go_quiet ((go_at_call 61; exact quiet_left' (fix_Fits _ _))); go_wp2; go_ret; exact ⟨by simp [mayB, *], by exact bl_drewN S1.out.bl _⟩)
  · cases h1 : may1 (f 1) (g 1)
    · go_enter Tryd.func22, Tryd.ntmps22
      go_wp2
      go_loopw [6] (fun v6 wr => ∃ k : Int, (k = 0 ∨ k = 1) ∧ v6 = .int .i64 k ∧ Asd (St w wr [(w.heap.size + 1, [.int .i64 (g 0), .int .i64 (g 1), .int .i64 (g 2)]), (w.heap.size, [.int .i64 (f 0), .int .i64 (f 1), .int .i64 (f 2)])] [])) (fun v6 _ => 3 - (intOf v6).toNat)
      case atStart => exact ⟨0, by decide, rfl, ⟨by refine St.layAt (by simp; done) ?_; refine St.layAt (by simp; done) ?_; exact S0.out⟩⟩
      case round =>
        obtain ⟨k, hk, rfl, S1⟩ := hrel
        have C1 := S1.out.facts
        simp only [facts, apart, cellsAt, Nat.zero_add, Nat.reduceAdd, and_true] at C1
        rcases hk with rfl | rfl
        · obtain ⟨a1, a2, a3⟩ := may1_true h0
          go_wp2
          go_quiet ((go_at_call 61; exact quiet_left' (fix_Fits _ _)))
          go_wp2
          go_roundw
          case rel => exact ⟨1, by decide, rfl, ⟨St.drewN S1.out _⟩⟩
          case measure => simp [intOf]
        · rcases may1_false h1 with a1 | ⟨a1, a2⟩ | ⟨a1, a2, a3⟩
          all_goals (go_wp2; go_quiet ((go_at_call 61; exact quiet_left' (fix_Fits _ _))); go_wp2; go_ret; exact ⟨by simp [mayB, *], by exact bl_drewN S1.out.bl _⟩)
    · cases h2 : may1 (f 2) (g 2)
      · go_enter Tryd.func22, Tryd.ntmps22
        go_wp2
        go_loopw [6] (fun v6 wr => ∃ k : Int, (k = 0 ∨ k = 1 ∨ k = 2) ∧ v6 = .int .i64 k ∧ Asd (St w wr [(w.heap.size + 1, [.int .i64 (g 0), .int .i64 (g 1), .int .i64 (g 2)]), (w.heap.size, [.int .i64 (f 0), .int .i64 (f 1), .int .i64 (f 2)])] [])) (fun v6 _ => 3 - (intOf v6).toNat)
        case atStart => exact ⟨0, by decide, rfl, ⟨by refine St.layAt (by simp; done) ?_; refine St.layAt (by simp; done) ?_; exact S0.out⟩⟩
        case round =>
          obtain ⟨k, hk, rfl, S1⟩ := hrel
          have C1 := S1.out.facts
          simp only [facts, apart, cellsAt, Nat.zero_add, Nat.reduceAdd, and_true] at C1
          rcases hk with rfl | rfl | rfl
          · obtain ⟨a1, a2, a3⟩ := may1_true h0
            go_wp2
            go_quiet ((go_at_call 61; exact quiet_left' (fix_Fits _ _)))
            go_wp2
            go_roundw
            case rel => exact ⟨1, by decide, rfl, ⟨St.drewN S1.out _⟩⟩
            case measure => simp [intOf]
          · obtain ⟨a1, a2, a3⟩ := may1_true h1
            go_wp2
            go_quiet ((go_at_call 61; exact quiet_left' (fix_Fits _ _)))
            go_wp2
            go_roundw
            case rel => exact ⟨2, by decide, rfl, ⟨St.drewN S1.out _⟩⟩
            case measure => simp [intOf]
          · rcases may1_false h2 with a1 | ⟨a1, a2⟩ | ⟨a1, a2, a3⟩
            all_goals (go_wp2; go_quiet ((go_at_call 61; exact quiet_left' (fix_Fits _ _))); go_wp2; go_ret; exact ⟨by simp [mayB, *], by exact bl_drewN S1.out.bl _⟩)
      · go_enter Tryd.func22, Tryd.ntmps22
        go_wp2
        go_loopw [6] (fun v6 wr => ∃ k : Int, (k = 0 ∨ k = 1 ∨ k = 2 ∨ k = 3) ∧ v6 = .int .i64 k ∧ Asd (St w wr [(w.heap.size + 1, [.int .i64 (g 0), .int .i64 (g 1), .int .i64 (g 2)]), (w.heap.size, [.int .i64 (f 0), .int .i64 (f 1), .int .i64 (f 2)])] [])) (fun v6 _ => 3 - (intOf v6).toNat)
        case atStart => exact ⟨0, by decide, rfl, ⟨by refine St.layAt (by simp; done) ?_; refine St.layAt (by simp; done) ?_; exact S0.out⟩⟩
        case round =>
          obtain ⟨k, hk, rfl, S1⟩ := hrel
          have C1 := S1.out.facts
          simp only [facts, apart, cellsAt, Nat.zero_add, Nat.reduceAdd, and_true] at C1
          rcases hk with rfl | rfl | rfl | rfl
          · obtain ⟨a1, a2, a3⟩ := may1_true h0
            go_wp2
            go_quiet ((go_at_call 61; exact quiet_left' (fix_Fits _ _)))
            go_wp2
            go_roundw
            case rel => exact ⟨1, by decide, rfl, ⟨St.drewN S1.out _⟩⟩
            case measure => simp [intOf]
          · obtain ⟨a1, a2, a3⟩ := may1_true h1
            go_wp2
            go_quiet ((go_at_call 61; exact quiet_left' (fix_Fits _ _)))
            go_wp2
            go_roundw
            case rel => exact ⟨2, by decide, rfl, ⟨St.drewN S1.out _⟩⟩
            case measure => simp [intOf]
          · obtain ⟨a1, a2, a3⟩ := may1_true h2
            go_wp2
            go_quiet ((go_at_call 61; exact quiet_left' (fix_Fits _ _)))
            go_wp2
            go_roundw
            case rel => exact ⟨3, by decide, rfl, ⟨St.drewN S1.out _⟩⟩
            case measure => simp [intOf]
          · go_wp2
            go_ret
            exact ⟨by simp [mayB, *], S1.out.bl⟩
set_option maxRecDepth 100000 in
set_option maxHeartbeats 4000000 in
theorem ref9_May (f g : Nat → Int) (w : World) : Calls Tryd.prog 23 #[.agg #[.int .i64 (f 0), .int .i64 (f 1), .int .i64 (f 2)], .agg #[.int .i64 (g 0), .int .i64 (g 1), .int .i64 (g 2)]] w fun e w' => e = .returned (.bool (mayB f g)) ∧ Below w.heap.size w w' := by
  have S0 := Asd.mk (St.refl w)
  cases h0 : may1 (f 0) (g 0)
  · go_enter Tryd.func23, Tryd.ntmps23
    go_wp2
    go_loopw [5] (fun v6 wr => ∃ k : Int, (k = 0) ∧ v6 = .int .i64 k ∧ Asd (St w wr [(w.heap.size + 1, [.int .i64 (g 0), .int .i64 (g 1), .int .i64 (g 2)]), (w.heap.size, [.int .i64 (f 0), .int .i64 (f 1), .int .i64 (f 2)])] [])) (fun v6 _ => 3 - (intOf v6).toNat)
    case atStart => exact ⟨0, by decide, rfl, ⟨by refine St.layAt (by simp; done) ?_; refine St.layAt (by simp; done) ?_; exact S0.out⟩⟩
    case round =>
      obtain ⟨k, hk, rfl, S1⟩ := hrel
      have C1 := S1.out.facts
      simp only [facts, apart, cellsAt, Nat.zero_add, Nat.reduceAdd, and_true] at C1
      obtain rfl := hk
      rcases may1_false h0 with a1 | ⟨a1, a2⟩ | ⟨a1, a2, a3⟩
      all_goals (go_wp2; go_quiet ((go_at_call 62; exact quiet_left' (ref2_Fits _ _))); go_wp2; go_ret; exact ⟨by simp [mayB, *], by exact bl_drewN S1.out.bl _⟩)
  · cases h1 : may1 (f 1) (g 1)
    · go_enter Tryd.func23, Tryd.ntmps23
      go_wp2
      go_loopw [5] (fun v6 wr => ∃ k : Int, (k = 0 ∨ k = 1) ∧ v6 = .int .i64 k ∧ Asd (St w wr [(w.heap.size + 1, [.int .i64 (g 0), .int .i64 (g 1), .int .i64 (g 2)]), (w.heap.size, [.int .i64 (f 0), .int .i64 (f 1), .int .i64 (f 2)])] [])) (fun v6 _ => 3 - (intOf v6).toNat)
      case atStart => exact ⟨0, by decide, rfl, ⟨by refine St.layAt (by simp; done) ?_; refine St.layAt (by simp; done) ?_; exact S0.out⟩⟩
      case round =>
        obtain ⟨k, hk, rfl, S1⟩ := hrel
        have C1 := S1.out.facts
        simp only [facts, apart, cellsAt, Nat.zero_add, Nat.reduceAdd, and_true] at C1
        rcases hk with rfl | rfl
        · obtain ⟨a1, a2, a3⟩ := may1_true h0
          go_wp2
          go_quiet ((go_at_call 62; exact quiet_left' (ref2_Fits _ _)))
          go_wp2
          go_roundw
          case rel => exact ⟨1, by decide, rfl, ⟨St.drewN S1.out _⟩⟩
          case measure => simp [intOf]
        · rcases may1_false h1 with a1 | ⟨a1, a2⟩ | ⟨a1, a2, a3⟩
          all_goals (go_wp2; go_quiet ((go_at_call 62; exact quiet_left' (ref2_Fits _ _))); go_wp2; go_ret; exact ⟨by simp [mayB, *], by exact bl_drewN S1.out.bl _⟩)
    · cases h2 : may1 (f 2) (g 2)
      · go_enter Tryd.func23, Tryd.ntmps23
        go_wp2
        go_loopw [5] (fun v6 wr => ∃ k : Int, (k = 0 ∨ k = 1 ∨ k = 2) ∧ v6 = .int .i64 k ∧ Asd (St w wr [(w.heap.size + 1, [.int .i64 (g 0), .int .i64 (g 1), .int .i64 (g 2)]), (w.heap.size, [.int .i64 (f 0), .int .i64 (f 1), .int .i64 (f 2)])] [])) (fun v6 _ => 3 - (intOf v6).toNat)
        case atStart => exact ⟨0, by decide, rfl, ⟨by refine St.layAt (by simp; done) ?_; refine St.layAt (by simp; done) ?_; exact S0.out⟩⟩
        case round =>
          obtain ⟨k, hk, rfl, S1⟩ := hrel
          have C1 := S1.out.facts
          simp only [facts, apart, cellsAt, Nat.zero_add, Nat.reduceAdd, and_true] at C1
          rcases hk with rfl | rfl | rfl
          · obtain ⟨a1, a2, a3⟩ := may1_true h0
            go_wp2
            go_quiet ((go_at_call 62; exact quiet_left' (ref2_Fits _ _)))
            go_wp2
            go_roundw
            case rel => exact ⟨1, by decide, rfl, ⟨St.drewN S1.out _⟩⟩
            case measure => simp [intOf]
          · obtain ⟨a1, a2, a3⟩ := may1_true h1
            go_wp2
            go_quiet ((go_at_call 62; exact quiet_left' (ref2_Fits _ _)))
            go_wp2
            go_roundw
            case rel => exact ⟨2, by decide, rfl, ⟨St.drewN S1.out _⟩⟩
            case measure => simp [intOf]
          · rcases may1_false h2 with a1 | ⟨a1, a2⟩ | ⟨a1, a2, a3⟩
            all_goals (go_wp2; go_quiet ((go_at_call 62; exact quiet_left' (ref2_Fits _ _))); go_wp2; go_ret; exact ⟨by simp [mayB, *], by exact bl_drewN S1.out.bl _⟩)
      · go_enter Tryd.func23, Tryd.ntmps23
        go_wp2
        go_loopw [5] (fun v6 wr => ∃ k : Int, (k = 0 ∨ k = 1 ∨ k = 2 ∨ k = 3) ∧ v6 = .int .i64 k ∧ Asd (St w wr [(w.heap.size + 1, [.int .i64 (g 0), .int .i64 (g 1), .int .i64 (g 2)]), (w.heap.size, [.int .i64 (f 0), .int .i64 (f 1), .int .i64 (f 2)])] [])) (fun v6 _ => 3 - (intOf v6).toNat)
        case atStart => exact ⟨0, by decide, rfl, ⟨by refine St.layAt (by simp; done) ?_; refine St.layAt (by simp; done) ?_; exact S0.out⟩⟩
        case round =>
          obtain ⟨k, hk, rfl, S1⟩ := hrel
          have C1 := S1.out.facts
          simp only [facts, apart, cellsAt, Nat.zero_add, Nat.reduceAdd, and_true] at C1
          rcases hk with rfl | rfl | rfl | rfl
          · obtain ⟨a1, a2, a3⟩ := may1_true h0
            go_wp2
            go_quiet ((go_at_call 62; exact quiet_left' (ref2_Fits _ _)))
            go_wp2
            go_roundw
            case rel => exact ⟨1, by decide, rfl, ⟨St.drewN S1.out _⟩⟩
            case measure => simp [intOf]
          · obtain ⟨a1, a2, a3⟩ := may1_true h1
            go_wp2
            go_quiet ((go_at_call 62; exact quiet_left' (ref2_Fits _ _)))
            go_wp2
            go_roundw
            case rel => exact ⟨2, by decide, rfl, ⟨St.drewN S1.out _⟩⟩
            case measure => simp [intOf]
          · obtain ⟨a1, a2, a3⟩ := may1_true h2
            go_wp2
            go_quiet ((go_at_call 62; exact quiet_left' (ref2_Fits _ _)))
            go_wp2
            go_roundw
            case rel => exact ⟨3, by decide, rfl, ⟨St.drewN S1.out _⟩⟩
            case measure => simp [intOf]
          · go_wp2
            go_ret
            exact ⟨by simp [mayB, *], S1.out.bl⟩
end Go.Proofs.YtlinfennhfphiaaDoor
