/- Walks of layer 5 (sym): the sum. -/
import Derived.Test.YtlinfennhfphiaaDoorSg
import Derived.Test.YtlinfennhfphiaaDoorGe
import Derived.StillTailTactics
namespace Go.Proofs.YtlinfennhfphiaaDoor
open Go.RowKit
set_option linter.unusedSimpArgs false
set_option linter.unusedVariables false
attribute [local go_sem] nlt2 nlt3 nlt4 nlt5 nlt6 nlt7 nlt8 nlt9 nlt10 nlt11 nlt12
def addV (a b : Nat → Int) (i : Nat) : Int := if fits6 a && fits6 b then (if fits6 (fun j => a j + b j) then a i + b i else 0) else 0
def addE (a b : Nat → Int) : Int := if fits6 a && fits6 b then (if fits6 (fun j => a j + b j) then 0 else 3) else 1
set_option maxRecDepth 100000 in
set_option maxHeartbeats 8000000 in
theorem sym_Add (a b : Nat → Int) (w : World) : Calls Tryd.prog 13 #[.agg #[.int .i64 (a 0), .int .i64 (a 1), .int .i64 (a 2), .int .i64 (a 3), .int .i64 (a 4), .int .i64 (a 5)], .agg #[.int .i64 (b 0), .int .i64 (b 1), .int .i64 (b 2), .int .i64 (b 3), .int .i64 (b 4), .int .i64 (b 5)]] w fun e w' => e = .returned (.tuple #[.agg #[.int .i64 (addV a b 0), .int .i64 (addV a b 1), .int .i64 (addV a b 2), .int .i64 (addV a b 3), .int .i64 (addV a b 4), .int .i64 (addV a b 5)], .int .i64 (addE a b)]) ∧ Below w.heap.size w w' := by
  obtain ⟨fa, hfa⟩ : ∃ x, fits6 a = x := ⟨_, rfl⟩
  obtain ⟨fb, hfb⟩ : ∃ x, fits6 b = x := ⟨_, rfl⟩
  obtain ⟨fs, hfs⟩ : ∃ x, fits6 (fun j => a j + b j) = x := ⟨_, rfl⟩
  have HFa : Asd (∀ W, Calls Tryd.prog 44 #[.agg #[.int .i64 (a 0), .int .i64 (a 1), .int .i64 (a 2), .int .i64 (a 3), .int .i64 (a 4), .int .i64 (a 5)]] W fun e w' => e = .returned (.bool fa) ∧ Below W.heap.size W w') := ⟨fun W => by rw [← hfa]; exact sym_fits (a) W⟩
  have HFb : Asd (∀ W, Calls Tryd.prog 44 #[.agg #[.int .i64 (b 0), .int .i64 (b 1), .int .i64 (b 2), .int .i64 (b 3), .int .i64 (b 4), .int .i64 (b 5)]] W fun e w' => e = .returned (.bool fb) ∧ Below W.heap.size W w') := ⟨fun W => by rw [← hfb]; exact sym_fits (b) W⟩
  have HFs : Asd (∀ W, Calls Tryd.prog 44 #[.agg #[.int .i64 (a 0 + b 0), .int .i64 (a 1 + b 1), .int .i64 (a 2 + b 2), .int .i64 (a 3 + b 3), .int .i64 (a 4 + b 4), .int .i64 (a 5 + b 5)]] W fun e w' => e = .returned (.bool fs) ∧ Below W.heap.size W w') := ⟨fun W => by rw [← hfs]; exact sym_fits (fun j => a j + b j) W⟩
  have S0 : Asd (St w (((w.alloc (.cells #[.int .i64 (a 0), .int .i64 (a 1), .int .i64 (a 2), .int .i64 (a 3), .int .i64 (a 4), .int .i64 (a 5)] 23)).alloc (.cells #[.int .i64 (b 0), .int .i64 (b 1), .int .i64 (b 2), .int .i64 (b 3), .int .i64 (b 4), .int .i64 (b 5)] 23)).alloc (.cells #[.int .i64 0, .int .i64 0, .int .i64 0, .int .i64 0, .int .i64 0, .int .i64 0] 23)) [(w.heap.size + 1 + 1, [.int .i64 0, .int .i64 0, .int .i64 0, .int .i64 0, .int .i64 0, .int .i64 0]), (w.heap.size + 1, [.int .i64 (b 0), .int .i64 (b 1), .int .i64 (b 2), .int .i64 (b 3), .int .i64 (b 4), .int .i64 (b 5)]), (w.heap.size, [.int .i64 (a 0), .int .i64 (a 1), .int .i64 (a 2), .int .i64 (a 3), .int .i64 (a 4), .int .i64 (a 5)])] []) := ⟨by refine St.layAt (by simp; done) ?_; refine St.layAt (by simp; done) ?_; refine St.layAt rfl ?_; exact St.refl w⟩
  simp only [addV, addE, hfa, hfb, hfs]
  cases fa
  · clear hfa hfb hfs
    go_enter Tryd.func13, Tryd.ntmps13
    go_wp2_with (first | (go_at_call 44; replace S0 := S0; refine (HFa.out _).mono ?_; rintro e w1 ⟨rfl, hb1⟩; have S1 := Asd.mk (St.call (by (focus (with_reducible repeat (first | exact S0.out | apply St.drew | apply St.drewN)))) hb1); clear hb1 S0) | (replace S1 := S1; refine wpList_storeAll (w0 := w) 23 rfl rfl rfl (w.heap.size + 1 + 1) (by kernel_rfl) #[.int .i64 0, .int .i64 0, .int .i64 0, .int .i64 0, .int .i64 0, .int .i64 0] rfl S1.out 0 rfl rfl (by kernel_rfl) (by kernel_rfl) ?_; intro w2 Sx; have S2 : Asd (St w w2 [(w.heap.size + 1 + 1, [.int .i64 0, .int .i64 0, .int .i64 0, .int .i64 0, .int .i64 0, .int .i64 0]), (w.heap.size + 1, [.int .i64 (b 0), .int .i64 (b 1), .int .i64 (b 2), .int .i64 (b 3), .int .i64 (b 4), .int .i64 (b 5)]), (w.heap.size, [.int .i64 (a 0), .int .i64 (a 1), .int .i64 (a 2), .int .i64 (a 3), .int .i64 (a 4), .int .i64 (a 5)])] []) := ⟨Sx⟩; clear Sx S1) | (replace S0 := S0; refine wpList_whole 23 rfl rfl (w.heap.size) (by kernel_rfl) (cs := [.int .i64 (a 0), .int .i64 (a 1), .int .i64 (a 2), .int .i64 (a 3), .int .i64 (a 4), .int .i64 (a 5)]) (St.at S0.out 2 rfl) (by kernel_rfl) (by kernel_rfl) ?_))
    exact bodyPost_ret (results_row2 (a := 4) (b := 5) (t := 23) rfl (g := w.heap.size + 1 + 1) rfl rfl (run_loadVar_part (St.at S2.out 0 rfl) (by kernel_rfl) (by kernel_rfl))) rfl ⟨rfl, S2.out.bl⟩

  cases fb
  · clear hfa hfb hfs
    go_enter Tryd.func13, Tryd.ntmps13
    go_wp2_with (first | (go_at_call 44; replace S1 := S1; refine (HFb.out _).mono ?_; rintro e w2 ⟨rfl, hb2⟩; have S2 := Asd.mk (St.call (by (focus (with_reducible repeat (first | exact S1.out | apply St.drew | apply St.drewN)))) hb2); clear hb2 S1; clear C1) | (go_at_call 44; replace S0 := S0; refine (HFa.out _).mono ?_; rintro e w1 ⟨rfl, hb1⟩; have S1 := Asd.mk (St.call (by (focus (with_reducible repeat (first | exact S0.out | apply St.drew | apply St.drewN)))) hb1); clear hb1 S0; have C1 := S1.out.facts; simp only [facts, apart, cellsAt, Nat.zero_add, Nat.reduceAdd, and_true] at C1) | (replace S2 := S2; refine wpList_storeAll (w0 := w) 23 rfl rfl rfl (w.heap.size + 1 + 1) (by kernel_rfl) #[.int .i64 0, .int .i64 0, .int .i64 0, .int .i64 0, .int .i64 0, .int .i64 0] rfl S2.out 0 rfl rfl (by kernel_rfl) (by kernel_rfl) ?_; intro w3 Sx; have S3 : Asd (St w w3 [(w.heap.size + 1 + 1, [.int .i64 0, .int .i64 0, .int .i64 0, .int .i64 0, .int .i64 0, .int .i64 0]), (w.heap.size + 1, [.int .i64 (b 0), .int .i64 (b 1), .int .i64 (b 2), .int .i64 (b 3), .int .i64 (b 4), .int .i64 (b 5)]), (w.heap.size, [.int .i64 (a 0), .int .i64 (a 1), .int .i64 (a 2), .int .i64 (a 3), .int .i64 (a 4), .int .i64 (a 5)])] []) := ⟨Sx⟩; clear Sx S2) | (replace S1 := S1; refine wpList_whole 23 rfl rfl (w.heap.size + 1) (by kernel_rfl) (cs := [.int .i64 (b 0), .int .i64 (b 1), .int .i64 (b 2), .int .i64 (b 3), .int .i64 (b 4), .int .i64 (b 5)]) (St.at S1.out 1 rfl) (by kernel_rfl) (by kernel_rfl) ?_) | (replace S0 := S0; refine wpList_whole 23 rfl rfl (w.heap.size) (by kernel_rfl) (cs := [.int .i64 (a 0), .int .i64 (a 1), .int .i64 (a 2), .int .i64 (a 3), .int .i64 (a 4), .int .i64 (a 5)]) (St.at S0.out 2 rfl) (by kernel_rfl) (by kernel_rfl) ?_))
    exact bodyPost_ret (results_row2 (a := 4) (b := 5) (t := 23) rfl (g := w.heap.size + 1 + 1) rfl rfl (run_loadVar_part (St.at S3.out 0 rfl) (by kernel_rfl) (by kernel_rfl))) rfl ⟨rfl, S3.out.bl⟩

  have G := Asd.mk (And.intro hfa hfb)
  clear hfa hfb
  go_enter Tryd.func13, Tryd.ntmps13
  go_wp2_with (first | (go_at_call 44; replace S1 := S1; refine (HFb.out _).mono ?_; rintro e w2 ⟨rfl, hb2⟩; have S2 := Asd.mk (St.call (by (focus (with_reducible repeat (first | exact S1.out | apply St.drew | apply St.drewN)))) hb2); clear hb2 S1; clear C1) | (go_at_call 44; replace S0 := S0; refine (HFa.out _).mono ?_; rintro e w1 ⟨rfl, hb1⟩; have S1 := Asd.mk (St.call (by (focus (with_reducible repeat (first | exact S0.out | apply St.drew | apply St.drewN)))) hb1); clear hb1 S0; have C1 := S1.out.facts; simp only [facts, apart, cellsAt, Nat.zero_add, Nat.reduceAdd, and_true] at C1) | (replace S1 := S1; refine wpList_whole 23 rfl rfl (w.heap.size + 1) (by kernel_rfl) (cs := [.int .i64 (b 0), .int .i64 (b 1), .int .i64 (b 2), .int .i64 (b 3), .int .i64 (b 4), .int .i64 (b 5)]) (St.at S1.out 1 rfl) (by kernel_rfl) (by kernel_rfl) ?_) | (replace S0 := S0; refine wpList_whole 23 rfl rfl (w.heap.size) (by kernel_rfl) (cs := [.int .i64 (a 0), .int .i64 (a 1), .int .i64 (a 2), .int .i64 (a 3), .int .i64 (a 4), .int .i64 (a 5)]) (St.at S0.out 2 rfl) (by kernel_rfl) (by kernel_rfl) ?_))
  go_loopw [16] (fun v wr => ∃ k : Int, v = .int .i64 k ∧ ((k = 0 ∧ Asd (St w wr [(w.heap.size + 1 + 1, [.int .i64 0, .int .i64 0, .int .i64 0, .int .i64 0, .int .i64 0, .int .i64 0]), (w.heap.size + 1, [.int .i64 (b 0), .int .i64 (b 1), .int .i64 (b 2), .int .i64 (b 3), .int .i64 (b 4), .int .i64 (b 5)]), (w.heap.size, [.int .i64 (a 0), .int .i64 (a 1), .int .i64 (a 2), .int .i64 (a 3), .int .i64 (a 4), .int .i64 (a 5)])] [])) ∨ (k = 1 ∧ Asd (St w wr [(w.heap.size + 1 + 1, [.int .i64 0, .int .i64 0, .int .i64 0, .int .i64 0, .int .i64 0, .int .i64 0]), (w.heap.size + 1, [.int .i64 (b 0), .int .i64 (b 1), .int .i64 (b 2), .int .i64 (b 3), .int .i64 (b 4), .int .i64 (b 5)]), (w.heap.size, [.int .i64 (a 0 + b 0), .int .i64 (a 1), .int .i64 (a 2), .int .i64 (a 3), .int .i64 (a 4), .int .i64 (a 5)])] [])) ∨ (k = 2 ∧ Asd (St w wr [(w.heap.size + 1 + 1, [.int .i64 0, .int .i64 0, .int .i64 0, .int .i64 0, .int .i64 0, .int .i64 0]), (w.heap.size + 1, [.int .i64 (b 0), .int .i64 (b 1), .int .i64 (b 2), .int .i64 (b 3), .int .i64 (b 4), .int .i64 (b 5)]), (w.heap.size, [.int .i64 (a 0 + b 0), .int .i64 (a 1 + b 1), .int .i64 (a 2), .int .i64 (a 3), .int .i64 (a 4), .int .i64 (a 5)])] [])) ∨ (k = 3 ∧ Asd (St w wr [(w.heap.size + 1 + 1, [.int .i64 0, .int .i64 0, .int .i64 0, .int .i64 0, .int .i64 0, .int .i64 0]), (w.heap.size + 1, [.int .i64 (b 0), .int .i64 (b 1), .int .i64 (b 2), .int .i64 (b 3), .int .i64 (b 4), .int .i64 (b 5)]), (w.heap.size, [.int .i64 (a 0 + b 0), .int .i64 (a 1 + b 1), .int .i64 (a 2 + b 2), .int .i64 (a 3), .int .i64 (a 4), .int .i64 (a 5)])] [])) ∨ (k = 4 ∧ Asd (St w wr [(w.heap.size + 1 + 1, [.int .i64 0, .int .i64 0, .int .i64 0, .int .i64 0, .int .i64 0, .int .i64 0]), (w.heap.size + 1, [.int .i64 (b 0), .int .i64 (b 1), .int .i64 (b 2), .int .i64 (b 3), .int .i64 (b 4), .int .i64 (b 5)]), (w.heap.size, [.int .i64 (a 0 + b 0), .int .i64 (a 1 + b 1), .int .i64 (a 2 + b 2), .int .i64 (a 3 + b 3), .int .i64 (a 4), .int .i64 (a 5)])] [])) ∨ (k = 5 ∧ Asd (St w wr [(w.heap.size + 1 + 1, [.int .i64 0, .int .i64 0, .int .i64 0, .int .i64 0, .int .i64 0, .int .i64 0]), (w.heap.size + 1, [.int .i64 (b 0), .int .i64 (b 1), .int .i64 (b 2), .int .i64 (b 3), .int .i64 (b 4), .int .i64 (b 5)]), (w.heap.size, [.int .i64 (a 0 + b 0), .int .i64 (a 1 + b 1), .int .i64 (a 2 + b 2), .int .i64 (a 3 + b 3), .int .i64 (a 4 + b 4), .int .i64 (a 5)])] [])) ∨ (k = 6 ∧ Asd (St w wr [(w.heap.size + 1 + 1, [.int .i64 0, .int .i64 0, .int .i64 0, .int .i64 0, .int .i64 0, .int .i64 0]), (w.heap.size + 1, [.int .i64 (b 0), .int .i64 (b 1), .int .i64 (b 2), .int .i64 (b 3), .int .i64 (b 4), .int .i64 (b 5)]), (w.heap.size, [.int .i64 (a 0 + b 0), .int .i64 (a 1 + b 1), .int .i64 (a 2 + b 2), .int .i64 (a 3 + b 3), .int .i64 (a 4 + b 4), .int .i64 (a 5 + b 5)])] [])))) (fun v _ => 6 - (intOf v).toNat)
  case atStart => exact ⟨0, rfl, Or.inl ⟨rfl, S2⟩⟩
  case round =>
    obtain ⟨k, rfl, hk⟩ := hrel
    clear S2
    rcases hk with ⟨rfl, S3⟩ | ⟨rfl, S3⟩ | ⟨rfl, S3⟩ | ⟨rfl, S3⟩ | ⟨rfl, S3⟩ | ⟨rfl, S3⟩ | ⟨rfl, S3⟩
    · obtain ⟨x1, x2⟩ := fitB_true.1 (allB_at G.out.1 (k := 0) (by decide))
      obtain ⟨y1, y2⟩ := fitB_true.1 (allB_at G.out.2 (k := 0) (by decide))
      have eA := St.cell S3.out 2 0 rfl rfl
      have eB := St.cell S3.out 1 0 rfl rfl
      have F3 := S3.out.facts.2.2.2.2.2.2.2.2.2.2.1
      simp only at F3 x1 x2 y1 y2
      go_wp2
      go_still_tail 8, (by kernel_rfl)
      change wpList _ _ _ _ _ (World.drew _)
      go_wp2
      go_roundw
      case rel => exact ⟨1, rfl, by simp only [Int.reduceEq, false_and, false_or, or_false, true_and]; exact ⟨St.set (St.drew S3.out) 2 0 rfl (by simp) (Or.inl rfl) _⟩⟩
      case measure => simp [intOf]
    · obtain ⟨x1, x2⟩ := fitB_true.1 (allB_at G.out.1 (k := 1) (by decide))
      obtain ⟨y1, y2⟩ := fitB_true.1 (allB_at G.out.2 (k := 1) (by decide))
      have eA := St.cell S3.out 2 1 rfl rfl
      have eB := St.cell S3.out 1 1 rfl rfl
      have F3 := S3.out.facts.2.2.2.2.2.2.2.2.2.2.1
      simp only at F3 x1 x2 y1 y2
      go_wp2
      go_still_tail 8, (by kernel_rfl)
      change wpList _ _ _ _ _ (World.drew _)
      go_wp2
      go_roundw
      case rel => exact ⟨2, rfl, by simp only [Int.reduceEq, false_and, false_or, or_false, true_and]; exact ⟨St.set (St.drew S3.out) 2 1 rfl (by simp) (Or.inl rfl) _⟩⟩
      case measure => simp [intOf]
    · obtain ⟨x1, x2⟩ := fitB_true.1 (allB_at G.out.1 (k := 2) (by decide))
      obtain ⟨y1, y2⟩ := fitB_true.1 (allB_at G.out.2 (k := 2) (by decide))
      have eA := St.cell S3.out 2 2 rfl rfl
      have eB := St.cell S3.out 1 2 rfl rfl
      have F3 := S3.out.facts.2.2.2.2.2.2.2.2.2.2.1
      simp only at F3 x1 x2 y1 y2
      go_wp2
      go_still_tail 8, (by kernel_rfl)
      change wpList _ _ _ _ _ (World.drew _)
      go_wp2
      go_roundw
      case rel => exact ⟨3, rfl, by simp only [Int.reduceEq, false_and, false_or, or_false, true_and]; exact ⟨St.set (St.drew S3.out) 2 2 rfl (by simp) (Or.inl rfl) _⟩⟩
      case measure => simp [intOf]
    · obtain ⟨x1, x2⟩ := fitB_true.1 (allB_at G.out.1 (k := 3) (by decide))
      obtain ⟨y1, y2⟩ := fitB_true.1 (allB_at G.out.2 (k := 3) (by decide))
      have eA := St.cell S3.out 2 3 rfl rfl
      have eB := St.cell S3.out 1 3 rfl rfl
      have F3 := S3.out.facts.2.2.2.2.2.2.2.2.2.2.1
      simp only at F3 x1 x2 y1 y2
      go_wp2
      go_still_tail 8, (by kernel_rfl)
      change wpList _ _ _ _ _ (World.drew _)
      go_wp2
      go_roundw
      case rel => exact ⟨4, rfl, by simp only [Int.reduceEq, false_and, false_or, or_false, true_and]; exact ⟨St.set (St.drew S3.out) 2 3 rfl (by simp) (Or.inl rfl) _⟩⟩
      case measure => simp [intOf]
    · obtain ⟨x1, x2⟩ := fitB_true.1 (allB_at G.out.1 (k := 4) (by decide))
      obtain ⟨y1, y2⟩ := fitB_true.1 (allB_at G.out.2 (k := 4) (by decide))
      have eA := St.cell S3.out 2 4 rfl rfl
      have eB := St.cell S3.out 1 4 rfl rfl
      have F3 := S3.out.facts.2.2.2.2.2.2.2.2.2.2.1
      simp only at F3 x1 x2 y1 y2
      go_wp2
      go_still_tail 8, (by kernel_rfl)
      change wpList _ _ _ _ _ (World.drew _)
      go_wp2
      go_roundw
      case rel => exact ⟨5, rfl, by simp only [Int.reduceEq, false_and, false_or, or_false, true_and]; exact ⟨St.set (St.drew S3.out) 2 4 rfl (by simp) (Or.inl rfl) _⟩⟩
      case measure => simp [intOf]
    · obtain ⟨x1, x2⟩ := fitB_true.1 (allB_at G.out.1 (k := 5) (by decide))
      obtain ⟨y1, y2⟩ := fitB_true.1 (allB_at G.out.2 (k := 5) (by decide))
      have eA := St.cell S3.out 2 5 rfl rfl
      have eB := St.cell S3.out 1 5 rfl rfl
      have F3 := S3.out.facts.2.2.2.2.2.2.2.2.2.2.1
      simp only at F3 x1 x2 y1 y2
      go_wp2
      go_still_tail 8, (by kernel_rfl)
      change wpList _ _ _ _ _ (World.drew _)
      go_wp2
      go_roundw
      case rel => exact ⟨6, rfl, by simp only [Int.reduceEq, false_and, false_or, or_false, true_and]; exact ⟨St.set (St.drew S3.out) 2 5 rfl (by simp) (Or.inl rfl) _⟩⟩
      case measure => simp [intOf]
    · cases fs
      · go_wp2_with (first | (go_at_call 44; replace S3 := S3; refine (HFs.out _).mono ?_; rintro e w4 ⟨rfl, hb4⟩; have S4 := Asd.mk (St.call (by (focus (with_reducible repeat (first | exact S3.out | apply St.drew | apply St.drewN)))) hb4); clear hb4 S3) | (replace S4 := S4; refine wpList_storeAll (w0 := w) 23 rfl rfl rfl (w.heap.size + 1 + 1) (by kernel_rfl) #[.int .i64 0, .int .i64 0, .int .i64 0, .int .i64 0, .int .i64 0, .int .i64 0] rfl S4.out 0 rfl rfl (by kernel_rfl) (by kernel_rfl) ?_; intro w5 Sx; have S5 : Asd (St w w5 [(w.heap.size + 1 + 1, [.int .i64 0, .int .i64 0, .int .i64 0, .int .i64 0, .int .i64 0, .int .i64 0]), (w.heap.size + 1, [.int .i64 (b 0), .int .i64 (b 1), .int .i64 (b 2), .int .i64 (b 3), .int .i64 (b 4), .int .i64 (b 5)]), (w.heap.size, [.int .i64 (a 0 + b 0), .int .i64 (a 1 + b 1), .int .i64 (a 2 + b 2), .int .i64 (a 3 + b 3), .int .i64 (a 4 + b 4), .int .i64 (a 5 + b 5)])] []) := ⟨Sx⟩; clear Sx S4) | (replace S3 := S3; refine wpList_whole 23 rfl rfl (w.heap.size) (by kernel_rfl) (cs := [.int .i64 (a 0 + b 0), .int .i64 (a 1 + b 1), .int .i64 (a 2 + b 2), .int .i64 (a 3 + b 3), .int .i64 (a 4 + b 4), .int .i64 (a 5 + b 5)]) (St.at S3.out 2 rfl) (by kernel_rfl) (by kernel_rfl) ?_))
        exact bodyPost_ret (results_row2 (a := 4) (b := 5) (t := 23) rfl (g := w.heap.size + 1 + 1) rfl rfl (run_loadVar_part (St.at S5.out 0 rfl) (by kernel_rfl) (by kernel_rfl))) rfl ⟨rfl, S5.out.bl⟩
      · go_wp2_with (first | (go_at_call 44; replace S3 := S3; refine (HFs.out _).mono ?_; rintro e w4 ⟨rfl, hb4⟩; have S4 := Asd.mk (St.call (by (focus (with_reducible repeat (first | exact S3.out | apply St.drew | apply St.drewN)))) hb4); clear hb4 S3) | (replace S4 := S4; refine wpList_storeAll (w0 := w) 23 rfl rfl rfl (w.heap.size + 1 + 1) (by kernel_rfl) #[.int .i64 (a 0 + b 0), .int .i64 (a 1 + b 1), .int .i64 (a 2 + b 2), .int .i64 (a 3 + b 3), .int .i64 (a 4 + b 4), .int .i64 (a 5 + b 5)] rfl S4.out 0 rfl rfl (by kernel_rfl) (by kernel_rfl) ?_; intro w5 Sx; have S5 : Asd (St w w5 [(w.heap.size + 1 + 1, [.int .i64 (a 0 + b 0), .int .i64 (a 1 + b 1), .int .i64 (a 2 + b 2), .int .i64 (a 3 + b 3), .int .i64 (a 4 + b 4), .int .i64 (a 5 + b 5)]), (w.heap.size + 1, [.int .i64 (b 0), .int .i64 (b 1), .int .i64 (b 2), .int .i64 (b 3), .int .i64 (b 4), .int .i64 (b 5)]), (w.heap.size, [.int .i64 (a 0 + b 0), .int .i64 (a 1 + b 1), .int .i64 (a 2 + b 2), .int .i64 (a 3 + b 3), .int .i64 (a 4 + b 4), .int .i64 (a 5 + b 5)])] []) := ⟨Sx⟩; clear Sx S4) | (replace S4 := S4; refine wpList_whole 23 rfl rfl (w.heap.size) (by kernel_rfl) (cs := [.int .i64 (a 0 + b 0), .int .i64 (a 1 + b 1), .int .i64 (a 2 + b 2), .int .i64 (a 3 + b 3), .int .i64 (a 4 + b 4), .int .i64 (a 5 + b 5)]) (St.at S4.out 2 rfl) (by kernel_rfl) (by kernel_rfl) ?_) | (replace S3 := S3; refine wpList_whole 23 rfl rfl (w.heap.size) (by kernel_rfl) (cs := [.int .i64 (a 0 + b 0), .int .i64 (a 1 + b 1), .int .i64 (a 2 + b 2), .int .i64 (a 3 + b 3), .int .i64 (a 4 + b 4), .int .i64 (a 5 + b 5)]) (St.at S3.out 2 rfl) (by kernel_rfl) (by kernel_rfl) ?_))
        exact bodyPost_ret (results_row2 (a := 4) (b := 5) (t := 23) rfl (g := w.heap.size + 1 + 1) rfl rfl (run_loadVar_part (St.at S5.out 0 rfl) (by kernel_rfl) (by kernel_rfl))) rfl ⟨rfl, S5.out.bl⟩
end Go.Proofs.YtlinfennhfphiaaDoor
