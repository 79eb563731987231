/- Walks of layer 13 (conf): the first rule that isn't kept. -/
import Derived.Test.YtpgkchbgjciinaaKh
import Derived.Test.YtpgkchbgjciinaaKf
namespace Go.Proofs.Ytpgkchbgjciinaa
open Go.RowKit
set_option linter.unusedSimpArgs false
set_option linter.unusedVariables false
attribute [local go_sem] nlt2 nlt3 nlt4 nlt5 nlt6 nlt7 nlt8 nlt9 nlt10 nlt11 nlt12
theorem ixRule_0 (w : World) : (Instr.index 65 (.agg #[.int .i64 1, .func (.func 28) #[] #[], .int .i64 2, .func (.func 32) #[] #[], .int .i64 3, .func (.func 34) #[] #[], .int .i64 4, .func (.func 35) #[] #[], .int .i64 5, .func (.func 36) #[] #[], .int .i64 6, .func (.func 39) #[] #[], .int .i64 7, .func (.func 41) #[] #[], .int .i64 8, .func (.func 43) #[] #[], .int .i64 9, .func (.func 44) #[] #[], .int .i64 10, .func (.func 46) #[] #[], .int .i64 11, .func (.func 47) #[] #[], .int .i64 12, .func (.func 48) #[] #[], .int .i64 13, .func (.func 49) #[] #[], .int .i64 14, .func (.func 50) #[] #[]]) (.int .i64 0)).run Try.prog w = .ok (.agg #[.int .i64 1, .func (.func 28) #[] #[]]) w := by kernel_rfl
theorem ixRule_1 (w : World) : (Instr.index 65 (.agg #[.int .i64 1, .func (.func 28) #[] #[], .int .i64 2, .func (.func 32) #[] #[], .int .i64 3, .func (.func 34) #[] #[], .int .i64 4, .func (.func 35) #[] #[], .int .i64 5, .func (.func 36) #[] #[], .int .i64 6, .func (.func 39) #[] #[], .int .i64 7, .func (.func 41) #[] #[], .int .i64 8, .func (.func 43) #[] #[], .int .i64 9, .func (.func 44) #[] #[], .int .i64 10, .func (.func 46) #[] #[], .int .i64 11, .func (.func 47) #[] #[], .int .i64 12, .func (.func 48) #[] #[], .int .i64 13, .func (.func 49) #[] #[], .int .i64 14, .func (.func 50) #[] #[]]) (.int .i64 1)).run Try.prog w = .ok (.agg #[.int .i64 2, .func (.func 32) #[] #[]]) w := by kernel_rfl
theorem ixRule_2 (w : World) : (Instr.index 65 (.agg #[.int .i64 1, .func (.func 28) #[] #[], .int .i64 2, .func (.func 32) #[] #[], .int .i64 3, .func (.func 34) #[] #[], .int .i64 4, .func (.func 35) #[] #[], .int .i64 5, .func (.func 36) #[] #[], .int .i64 6, .func (.func 39) #[] #[], .int .i64 7, .func (.func 41) #[] #[], .int .i64 8, .func (.func 43) #[] #[], .int .i64 9, .func (.func 44) #[] #[], .int .i64 10, .func (.func 46) #[] #[], .int .i64 11, .func (.func 47) #[] #[], .int .i64 12, .func (.func 48) #[] #[], .int .i64 13, .func (.func 49) #[] #[], .int .i64 14, .func (.func 50) #[] #[]]) (.int .i64 2)).run Try.prog w = .ok (.agg #[.int .i64 3, .func (.func 34) #[] #[]]) w := by kernel_rfl
theorem ixRule_3 (w : World) : (Instr.index 65 (.agg #[.int .i64 1, .func (.func 28) #[] #[], .int .i64 2, .func (.func 32) #[] #[], .int .i64 3, .func (.func 34) #[] #[], .int .i64 4, .func (.func 35) #[] #[], .int .i64 5, .func (.func 36) #[] #[], .int .i64 6, .func (.func 39) #[] #[], .int .i64 7, .func (.func 41) #[] #[], .int .i64 8, .func (.func 43) #[] #[], .int .i64 9, .func (.func 44) #[] #[], .int .i64 10, .func (.func 46) #[] #[], .int .i64 11, .func (.func 47) #[] #[], .int .i64 12, .func (.func 48) #[] #[], .int .i64 13, .func (.func 49) #[] #[], .int .i64 14, .func (.func 50) #[] #[]]) (.int .i64 3)).run Try.prog w = .ok (.agg #[.int .i64 4, .func (.func 35) #[] #[]]) w := by kernel_rfl
theorem ixRule_4 (w : World) : (Instr.index 65 (.agg #[.int .i64 1, .func (.func 28) #[] #[], .int .i64 2, .func (.func 32) #[] #[], .int .i64 3, .func (.func 34) #[] #[], .int .i64 4, .func (.func 35) #[] #[], .int .i64 5, .func (.func 36) #[] #[], .int .i64 6, .func (.func 39) #[] #[], .int .i64 7, .func (.func 41) #[] #[], .int .i64 8, .func (.func 43) #[] #[], .int .i64 9, .func (.func 44) #[] #[], .int .i64 10, .func (.func 46) #[] #[], .int .i64 11, .func (.func 47) #[] #[], .int .i64 12, .func (.func 48) #[] #[], .int .i64 13, .func (.func 49) #[] #[], .int .i64 14, .func (.func 50) #[] #[]]) (.int .i64 4)).run Try.prog w = .ok (.agg #[.int .i64 5, .func (.func 36) #[] #[]]) w := by kernel_rfl
theorem ixRule_5 (w : World) : (Instr.index 65 (.agg #[.int .i64 1, .func (.func 28) #[] #[], .int .i64 2, .func (.func 32) #[] #[], .int .i64 3, .func (.func 34) #[] #[], .int .i64 4, .func (.func 35) #[] #[], .int .i64 5, .func (.func 36) #[] #[], .int .i64 6, .func (.func 39) #[] #[], .int .i64 7, .func (.func 41) #[] #[], .int .i64 8, .func (.func 43) #[] #[], .int .i64 9, .func (.func 44) #[] #[], .int .i64 10, .func (.func 46) #[] #[], .int .i64 11, .func (.func 47) #[] #[], .int .i64 12, .func (.func 48) #[] #[], .int .i64 13, .func (.func 49) #[] #[], .int .i64 14, .func (.func 50) #[] #[]]) (.int .i64 5)).run Try.prog w = .ok (.agg #[.int .i64 6, .func (.func 39) #[] #[]]) w := by kernel_rfl
theorem ixRule_6 (w : World) : (Instr.index 65 (.agg #[.int .i64 1, .func (.func 28) #[] #[], .int .i64 2, .func (.func 32) #[] #[], .int .i64 3, .func (.func 34) #[] #[], .int .i64 4, .func (.func 35) #[] #[], .int .i64 5, .func (.func 36) #[] #[], .int .i64 6, .func (.func 39) #[] #[], .int .i64 7, .func (.func 41) #[] #[], .int .i64 8, .func (.func 43) #[] #[], .int .i64 9, .func (.func 44) #[] #[], .int .i64 10, .func (.func 46) #[] #[], .int .i64 11, .func (.func 47) #[] #[], .int .i64 12, .func (.func 48) #[] #[], .int .i64 13, .func (.func 49) #[] #[], .int .i64 14, .func (.func 50) #[] #[]]) (.int .i64 6)).run Try.prog w = .ok (.agg #[.int .i64 7, .func (.func 41) #[] #[]]) w := by kernel_rfl
theorem ixRule_7 (w : World) : (Instr.index 65 (.agg #[.int .i64 1, .func (.func 28) #[] #[], .int .i64 2, .func (.func 32) #[] #[], .int .i64 3, .func (.func 34) #[] #[], .int .i64 4, .func (.func 35) #[] #[], .int .i64 5, .func (.func 36) #[] #[], .int .i64 6, .func (.func 39) #[] #[], .int .i64 7, .func (.func 41) #[] #[], .int .i64 8, .func (.func 43) #[] #[], .int .i64 9, .func (.func 44) #[] #[], .int .i64 10, .func (.func 46) #[] #[], .int .i64 11, .func (.func 47) #[] #[], .int .i64 12, .func (.func 48) #[] #[], .int .i64 13, .func (.func 49) #[] #[], .int .i64 14, .func (.func 50) #[] #[]]) (.int .i64 7)).run Try.prog w = .ok (.agg #[.int .i64 8, .func (.func 43) #[] #[]]) w := by kernel_rfl
theorem ixRule_8 (w : World) : (Instr.index 65 (.agg #[.int .i64 1, .func (.func 28) #[] #[], .int .i64 2, .func (.func 32) #[] #[], .int .i64 3, .func (.func 34) #[] #[], .int .i64 4, .func (.func 35) #[] #[], .int .i64 5, .func (.func 36) #[] #[], .int .i64 6, .func (.func 39) #[] #[], .int .i64 7, .func (.func 41) #[] #[], .int .i64 8, .func (.func 43) #[] #[], .int .i64 9, .func (.func 44) #[] #[], .int .i64 10, .func (.func 46) #[] #[], .int .i64 11, .func (.func 47) #[] #[], .int .i64 12, .func (.func 48) #[] #[], .int .i64 13, .func (.func 49) #[] #[], .int .i64 14, .func (.func 50) #[] #[]]) (.int .i64 8)).run Try.prog w = .ok (.agg #[.int .i64 9, .func (.func 44) #[] #[]]) w := by kernel_rfl
theorem ixRule_9 (w : World) : (Instr.index 65 (.agg #[.int .i64 1, .func (.func 28) #[] #[], .int .i64 2, .func (.func 32) #[] #[], .int .i64 3, .func (.func 34) #[] #[], .int .i64 4, .func (.func 35) #[] #[], .int .i64 5, .func (.func 36) #[] #[], .int .i64 6, .func (.func 39) #[] #[], .int .i64 7, .func (.func 41) #[] #[], .int .i64 8, .func (.func 43) #[] #[], .int .i64 9, .func (.func 44) #[] #[], .int .i64 10, .func (.func 46) #[] #[], .int .i64 11, .func (.func 47) #[] #[], .int .i64 12, .func (.func 48) #[] #[], .int .i64 13, .func (.func 49) #[] #[], .int .i64 14, .func (.func 50) #[] #[]]) (.int .i64 9)).run Try.prog w = .ok (.agg #[.int .i64 10, .func (.func 46) #[] #[]]) w := by kernel_rfl
theorem ixRule_10 (w : World) : (Instr.index 65 (.agg #[.int .i64 1, .func (.func 28) #[] #[], .int .i64 2, .func (.func 32) #[] #[], .int .i64 3, .func (.func 34) #[] #[], .int .i64 4, .func (.func 35) #[] #[], .int .i64 5, .func (.func 36) #[] #[], .int .i64 6, .func (.func 39) #[] #[], .int .i64 7, .func (.func 41) #[] #[], .int .i64 8, .func (.func 43) #[] #[], .int .i64 9, .func (.func 44) #[] #[], .int .i64 10, .func (.func 46) #[] #[], .int .i64 11, .func (.func 47) #[] #[], .int .i64 12, .func (.func 48) #[] #[], .int .i64 13, .func (.func 49) #[] #[], .int .i64 14, .func (.func 50) #[] #[]]) (.int .i64 10)).run Try.prog w = .ok (.agg #[.int .i64 11, .func (.func 47) #[] #[]]) w := by kernel_rfl
theorem ixRule_11 (w : World) : (Instr.index 65 (.agg #[.int .i64 1, .func (.func 28) #[] #[], .int .i64 2, .func (.func 32) #[] #[], .int .i64 3, .func (.func 34) #[] #[], .int .i64 4, .func (.func 35) #[] #[], .int .i64 5, .func (.func 36) #[] #[], .int .i64 6, .func (.func 39) #[] #[], .int .i64 7, .func (.func 41) #[] #[], .int .i64 8, .func (.func 43) #[] #[], .int .i64 9, .func (.func 44) #[] #[], .int .i64 10, .func (.func 46) #[] #[], .int .i64 11, .func (.func 47) #[] #[], .int .i64 12, .func (.func 48) #[] #[], .int .i64 13, .func (.func 49) #[] #[], .int .i64 14, .func (.func 50) #[] #[]]) (.int .i64 11)).run Try.prog w = .ok (.agg #[.int .i64 12, .func (.func 48) #[] #[]]) w := by kernel_rfl
theorem ixRule_12 (w : World) : (Instr.index 65 (.agg #[.int .i64 1, .func (.func 28) #[] #[], .int .i64 2, .func (.func 32) #[] #[], .int .i64 3, .func (.func 34) #[] #[], .int .i64 4, .func (.func 35) #[] #[], .int .i64 5, .func (.func 36) #[] #[], .int .i64 6, .func (.func 39) #[] #[], .int .i64 7, .func (.func 41) #[] #[], .int .i64 8, .func (.func 43) #[] #[], .int .i64 9, .func (.func 44) #[] #[], .int .i64 10, .func (.func 46) #[] #[], .int .i64 11, .func (.func 47) #[] #[], .int .i64 12, .func (.func 48) #[] #[], .int .i64 13, .func (.func 49) #[] #[], .int .i64 14, .func (.func 50) #[] #[]]) (.int .i64 12)).run Try.prog w = .ok (.agg #[.int .i64 13, .func (.func 49) #[] #[]]) w := by kernel_rfl
theorem ixRule_13 (w : World) : (Instr.index 65 (.agg #[.int .i64 1, .func (.func 28) #[] #[], .int .i64 2, .func (.func 32) #[] #[], .int .i64 3, .func (.func 34) #[] #[], .int .i64 4, .func (.func 35) #[] #[], .int .i64 5, .func (.func 36) #[] #[], .int .i64 6, .func (.func 39) #[] #[], .int .i64 7, .func (.func 41) #[] #[], .int .i64 8, .func (.func 43) #[] #[], .int .i64 9, .func (.func 44) #[] #[], .int .i64 10, .func (.func 46) #[] #[], .int .i64 11, .func (.func 47) #[] #[], .int .i64 12, .func (.func 48) #[] #[], .int .i64 13, .func (.func 49) #[] #[], .int .i64 14, .func (.func 50) #[] #[]]) (.int .i64 13)).run Try.prog w = .ok (.agg #[.int .i64 14, .func (.func 50) #[] #[]]) w := by kernel_rfl
attribute [local go_sem] ixRule_0 ixRule_1 ixRule_2 ixRule_3 ixRule_4 ixRule_5 ixRule_6 ixRule_7 ixRule_8 ixRule_9 ixRule_10 ixRule_11 ixRule_12 ixRule_13
theorem store_func {P : Program} (w : World) (x y : Value) (f : Fn) (t : TypeId) :
    (store ⟨w.heap.size, 1, none⟩ (.func f #[] #[])).run P (w.alloc (.cells #[x, y] t)) = .ok () (w.alloc (.cells #[x, .func f #[] #[]] t)) := by
  have hg := heap_alloc_last w (.cells #[x, y] t)
  have hcell : (w.alloc (.cells #[x, y] t)).cell? ⟨w.heap.size, 1, none⟩ = some y := by simp only [World.cell?, hg]; rfl
  have hfro : (w.alloc (.cells #[x, y] t)).frozen? ⟨w.heap.size, 1, none⟩ = false := by simp only [World.frozen?, hg]; rfl
  rw [run_store P _ _ _ _ rfl, hcell]
  simp only [hfro]
  rw [setCell_eq_setRow _ _ _ _ _ _ _ hg, World.setRow_alloc_new]
  rfl
attribute [local go_sem] store_func
theorem firstC_step {c : Nat → Int} {n k : Nat} (h : firstC c (n + 1) k = ckC c) (hr : ruleB c k = true) : firstC c n (k + 1) = ckC c := by rw [← h]; simp [firstC, hr]
theorem firstC_stop {c : Nat → Int} {n k : Nat} (h : firstC c (n + 1) k = ckC c) (hr : ruleB c k = false) : (k : Int) = ckC c := by rw [← h]; simp [firstC, hr]
set_option maxRecDepth 100000 in
set_option maxHeartbeats 4000000 in
theorem conf_Check (c : Nat → Int) (hc : ∀ i, I64 (c i)) (w : World) : Calls Try.prog 12 #[.agg #[.int .i64 (c 0), .int .i64 (c 1), .int .i64 (c 2), .int .i64 (c 3), .int .i64 (c 4), .int .i64 (c 5), .int .i64 (c 6), .int .i64 (c 7), .int .i64 (c 8), .int .i64 (c 9), .int .i64 (c 10), .int .i64 (c 11), .int .i64 (c 12), .int .i64 (c 13), .int .i64 (c 14), .int .i64 (c 15), .int .i64 (c 16), .int .i64 (c 17), .int .i64 (c 18), .int .i64 (c 19), .int .i64 (c 20), .int .i64 (c 21), .int .i64 (c 22), .int .i64 (c 23), .int .i64 (c 24), .int .i64 (c 25), .int .i64 (c 26), .int .i64 (c 27), .int .i64 (c 28), .int .i64 (c 29), .int .i64 (c 30)]] w fun e w' => e = .returned (.int .i64 (ckC c)) ∧ Below w.heap.size w w' := by
  obtain ⟨z, hz⟩ : ∃ z, ckC c = z := ⟨_, rfl⟩
  have S0 := Asd.mk (St.refl w)
  go_enter Try.func12, Try.ntmps12
  rw [hz]
  go_wp2_with (first | (go_at_call 25; refine (conf_rules _).mono ?_; rintro e w1 ⟨rfl, hb1⟩; apply St.step (w0 := w) (hb := hb1); (focus (with_reducible repeat (first | exact S0.out | apply St.lay))); intro S1; clear hb1 S0))
  go_loopw [6] (fun v6 wr => ∃ k : Int, (k = 0 ∨ k = 1 ∨ k = 2 ∨ k = 3 ∨ k = 4 ∨ k = 5 ∨ k = 6 ∨ k = 7 ∨ k = 8 ∨ k = 9 ∨ k = 10 ∨ k = 11 ∨ k = 12 ∨ k = 13 ∨ k = 14) ∧ v6 = .int .i64 k ∧ firstC c (14 - k.toNat) (k.toNat + 1) = ckC c ∧ Asd (St w wr [(w.heap.size, [.int .i64 (c 0), .int .i64 (c 1), .int .i64 (c 2), .int .i64 (c 3), .int .i64 (c 4), .int .i64 (c 5), .int .i64 (c 6), .int .i64 (c 7), .int .i64 (c 8), .int .i64 (c 9), .int .i64 (c 10), .int .i64 (c 11), .int .i64 (c 12), .int .i64 (c 13), .int .i64 (c 14), .int .i64 (c 15), .int .i64 (c 16), .int .i64 (c 17), .int .i64 (c 18), .int .i64 (c 19), .int .i64 (c 20), .int .i64 (c 21), .int .i64 (c 22), .int .i64 (c 23), .int .i64 (c 24), .int .i64 (c 25), .int .i64 (c 26), .int .i64 (c 27), .int .i64 (c 28), .int .i64 (c 29), .int .i64 (c 30)])] [])) (fun v6 _ => 14 - (intOf v6).toNat)
  case atStart => exact ⟨0, by decide, rfl, rfl, S1⟩
  case round =>
    obtain ⟨k, hk, rfl, hf, S2⟩ := hrel
    clear S1
    rcases hk with rfl | rfl | rfl | rfl | rfl | rfl | rfl | rfl | rfl | rfl | rfl | rfl | rfl | rfl | rfl
    · obtain ⟨b, hb⟩ : ∃ b, ruleB c 1 = b := ⟨_, rfl⟩
      have HR : Asd (∀ W, Calls Try.prog 28 #[.agg #[.int .i64 (c 0), .int .i64 (c 1), .int .i64 (c 2), .int .i64 (c 3), .int .i64 (c 4), .int .i64 (c 5), .int .i64 (c 6), .int .i64 (c 7), .int .i64 (c 8), .int .i64 (c 9), .int .i64 (c 10), .int .i64 (c 11), .int .i64 (c 12), .int .i64 (c 13), .int .i64 (c 14), .int .i64 (c 15), .int .i64 (c 16), .int .i64 (c 17), .int .i64 (c 18), .int .i64 (c 19), .int .i64 (c 20), .int .i64 (c 21), .int .i64 (c 22), .int .i64 (c 23), .int .i64 (c 24), .int .i64 (c 25), .int .i64 (c 26), .int .i64 (c 27), .int .i64 (c 28), .int .i64 (c 29), .int .i64 (c 30)]] W fun e w' => e = .returned (.bool b) ∧ Below W.heap.size W w') := ⟨fun W => by
        have q := conf_r1 c W
        rw [← hb]; exact q⟩
      have HF := Asd.mk (And.intro hf hb)
      clear hf hb
      cases b
      all_goals go_wp2_with (first | (refine wpList_whole 25 rfl rfl w.heap.size (by kernel_rfl) (St.at (w0 := w) (bs := [_, _]) (gs := []) (by (focus (with_reducible repeat (first | exact S2.out | apply St.lay)))) 1 rfl) (by kernel_rfl) (by kernel_rfl) ?_) | (go_at_call 28; refine (HR.out _).mono ?_; rintro e w3 ⟨rfl, hb3⟩; apply St.step (w0 := w) (hb := hb3); (focus (with_reducible repeat (first | exact S2.out | apply St.lay))); intro S3; clear hb3; (try clear C2); have C3 := S3.out.facts.2.2.2.1; have L3 := S3.out.facts.1; simp only [cellsAt, Nat.zero_add, Nat.reduceAdd, and_true] at C3 L3))
      · go_ret
        exact ⟨by rw [← hz]; first | rfl | (rw [← firstC_stop HF.out.1 HF.out.2]; rfl), S3.out.bl⟩
      · go_roundw
        case rel => exact ⟨1, by decide, rfl, firstC_step HF.out.1 HF.out.2, ⟨S3.out.less (List.Sublist.cons _ (List.Sublist.refl _)) (by simp)⟩⟩
        case measure => simp [intOf]
    · obtain ⟨b, hb⟩ : ∃ b, ruleB c 2 = b := ⟨_, rfl⟩
      have HR : Asd (∀ W, Calls Try.prog 32 #[.agg #[.int .i64 (c 0), .int .i64 (c 1), .int .i64 (c 2), .int .i64 (c 3), .int .i64 (c 4), .int .i64 (c 5), .int .i64 (c 6), .int .i64 (c 7), .int .i64 (c 8), .int .i64 (c 9), .int .i64 (c 10), .int .i64 (c 11), .int .i64 (c 12), .int .i64 (c 13), .int .i64 (c 14), .int .i64 (c 15), .int .i64 (c 16), .int .i64 (c 17), .int .i64 (c 18), .int .i64 (c 19), .int .i64 (c 20), .int .i64 (c 21), .int .i64 (c 22), .int .i64 (c 23), .int .i64 (c 24), .int .i64 (c 25), .int .i64 (c 26), .int .i64 (c 27), .int .i64 (c 28), .int .i64 (c 29), .int .i64 (c 30)]] W fun e w' => e = .returned (.bool b) ∧ Below W.heap.size W w') := ⟨fun W => by
        have q := conf_r2 c W
        rw [← hb]; exact q⟩
      have HF := Asd.mk (And.intro hf hb)
      clear hf hb
      cases b
      all_goals go_wp2_with (first | (refine wpList_whole 25 rfl rfl w.heap.size (by kernel_rfl) (St.at (w0 := w) (bs := [_, _]) (gs := []) (by (focus (with_reducible repeat (first | exact S2.out | apply St.lay)))) 1 rfl) (by kernel_rfl) (by kernel_rfl) ?_) | (go_at_call 32; refine (HR.out _).mono ?_; rintro e w3 ⟨rfl, hb3⟩; apply St.step (w0 := w) (hb := hb3); (focus (with_reducible repeat (first | exact S2.out | apply St.lay))); intro S3; clear hb3; (try clear C2); have C3 := S3.out.facts.2.2.2.1; have L3 := S3.out.facts.1; simp only [cellsAt, Nat.zero_add, Nat.reduceAdd, and_true] at C3 L3))
      · go_ret
        exact ⟨by rw [← hz]; first | rfl | (rw [← firstC_stop HF.out.1 HF.out.2]; rfl), S3.out.bl⟩
      · go_roundw
        case rel => exact ⟨2, by decide, rfl, firstC_step HF.out.1 HF.out.2, ⟨S3.out.less (List.Sublist.cons _ (List.Sublist.refl _)) (by simp)⟩⟩
        case measure => simp [intOf]
    · obtain ⟨b, hb⟩ : ∃ b, ruleB c 3 = b := ⟨_, rfl⟩
      have HR : Asd (∀ W, Calls Try.prog 34 #[.agg #[.int .i64 (c 0), .int .i64 (c 1), .int .i64 (c 2), .int .i64 (c 3), .int .i64 (c 4), .int .i64 (c 5), .int .i64 (c 6), .int .i64 (c 7), .int .i64 (c 8), .int .i64 (c 9), .int .i64 (c 10), .int .i64 (c 11), .int .i64 (c 12), .int .i64 (c 13), .int .i64 (c 14), .int .i64 (c 15), .int .i64 (c 16), .int .i64 (c 17), .int .i64 (c 18), .int .i64 (c 19), .int .i64 (c 20), .int .i64 (c 21), .int .i64 (c 22), .int .i64 (c 23), .int .i64 (c 24), .int .i64 (c 25), .int .i64 (c 26), .int .i64 (c 27), .int .i64 (c 28), .int .i64 (c 29), .int .i64 (c 30)]] W fun e w' => e = .returned (.bool b) ∧ Below W.heap.size W w') := ⟨fun W => by
        have q := conf_r3 c W
        rw [← hb]; exact q⟩
      have HF := Asd.mk (And.intro hf hb)
      clear hf hb
      cases b
      all_goals go_wp2_with (first | (refine wpList_whole 25 rfl rfl w.heap.size (by kernel_rfl) (St.at (w0 := w) (bs := [_, _]) (gs := []) (by (focus (with_reducible repeat (first | exact S2.out | apply St.lay)))) 1 rfl) (by kernel_rfl) (by kernel_rfl) ?_) | (go_at_call 34; refine (HR.out _).mono ?_; rintro e w3 ⟨rfl, hb3⟩; apply St.step (w0 := w) (hb := hb3); (focus (with_reducible repeat (first | exact S2.out | apply St.lay))); intro S3; clear hb3; (try clear C2); have C3 := S3.out.facts.2.2.2.1; have L3 := S3.out.facts.1; simp only [cellsAt, Nat.zero_add, Nat.reduceAdd, and_true] at C3 L3))
      · go_ret
        exact ⟨by rw [← hz]; first | rfl | (rw [← firstC_stop HF.out.1 HF.out.2]; rfl), S3.out.bl⟩
      · go_roundw
        case rel => exact ⟨3, by decide, rfl, firstC_step HF.out.1 HF.out.2, ⟨S3.out.less (List.Sublist.cons _ (List.Sublist.refl _)) (by simp)⟩⟩
        case measure => simp [intOf]
    · obtain ⟨b, hb⟩ : ∃ b, ruleB c 4 = b := ⟨_, rfl⟩
      have HR : Asd (∀ W, Calls Try.prog 35 #[.agg #[.int .i64 (c 0), .int .i64 (c 1), .int .i64 (c 2), .int .i64 (c 3), .int .i64 (c 4), .int .i64 (c 5), .int .i64 (c 6), .int .i64 (c 7), .int .i64 (c 8), .int .i64 (c 9), .int .i64 (c 10), .int .i64 (c 11), .int .i64 (c 12), .int .i64 (c 13), .int .i64 (c 14), .int .i64 (c 15), .int .i64 (c 16), .int .i64 (c 17), .int .i64 (c 18), .int .i64 (c 19), .int .i64 (c 20), .int .i64 (c 21), .int .i64 (c 22), .int .i64 (c 23), .int .i64 (c 24), .int .i64 (c 25), .int .i64 (c 26), .int .i64 (c 27), .int .i64 (c 28), .int .i64 (c 29), .int .i64 (c 30)]] W fun e w' => e = .returned (.bool b) ∧ Below W.heap.size W w') := ⟨fun W => by
        have q := conf_r4 c W
        rw [← hb]; exact q⟩
      have HF := Asd.mk (And.intro hf hb)
      clear hf hb
      cases b
      all_goals go_wp2_with (first | (refine wpList_whole 25 rfl rfl w.heap.size (by kernel_rfl) (St.at (w0 := w) (bs := [_, _]) (gs := []) (by (focus (with_reducible repeat (first | exact S2.out | apply St.lay)))) 1 rfl) (by kernel_rfl) (by kernel_rfl) ?_) | (go_at_call 35; refine (HR.out _).mono ?_; rintro e w3 ⟨rfl, hb3⟩; apply St.step (w0 := w) (hb := hb3); (focus (with_reducible repeat (first | exact S2.out | apply St.lay))); intro S3; clear hb3; (try clear C2); have C3 := S3.out.facts.2.2.2.1; have L3 := S3.out.facts.1; simp only [cellsAt, Nat.zero_add, Nat.reduceAdd, and_true] at C3 L3))
      · go_ret
        exact ⟨by rw [← hz]; first | rfl | (rw [← firstC_stop HF.out.1 HF.out.2]; rfl), S3.out.bl⟩
      · go_roundw
        case rel => exact ⟨4, by decide, rfl, firstC_step HF.out.1 HF.out.2, ⟨S3.out.less (List.Sublist.cons _ (List.Sublist.refl _)) (by simp)⟩⟩
        case measure => simp [intOf]
    · obtain ⟨b, hb⟩ : ∃ b, ruleB c 5 = b := ⟨_, rfl⟩
      have HR : Asd (∀ W, Calls Try.prog 36 #[.agg #[.int .i64 (c 0), .int .i64 (c 1), .int .i64 (c 2), .int .i64 (c 3), .int .i64 (c 4), .int .i64 (c 5), .int .i64 (c 6), .int .i64 (c 7), .int .i64 (c 8), .int .i64 (c 9), .int .i64 (c 10), .int .i64 (c 11), .int .i64 (c 12), .int .i64 (c 13), .int .i64 (c 14), .int .i64 (c 15), .int .i64 (c 16), .int .i64 (c 17), .int .i64 (c 18), .int .i64 (c 19), .int .i64 (c 20), .int .i64 (c 21), .int .i64 (c 22), .int .i64 (c 23), .int .i64 (c 24), .int .i64 (c 25), .int .i64 (c 26), .int .i64 (c 27), .int .i64 (c 28), .int .i64 (c 29), .int .i64 (c 30)]] W fun e w' => e = .returned (.bool b) ∧ Below W.heap.size W w') := ⟨fun W => by
        have q := conf_r5 c W
        rw [← hb]; exact q⟩
      have HF := Asd.mk (And.intro hf hb)
      clear hf hb
      cases b
      all_goals go_wp2_with (first | (refine wpList_whole 25 rfl rfl w.heap.size (by kernel_rfl) (St.at (w0 := w) (bs := [_, _]) (gs := []) (by (focus (with_reducible repeat (first | exact S2.out | apply St.lay)))) 1 rfl) (by kernel_rfl) (by kernel_rfl) ?_) | (go_at_call 36; refine (HR.out _).mono ?_; rintro e w3 ⟨rfl, hb3⟩; apply St.step (w0 := w) (hb := hb3); (focus (with_reducible repeat (first | exact S2.out | apply St.lay))); intro S3; clear hb3; (try clear C2); have C3 := S3.out.facts.2.2.2.1; have L3 := S3.out.facts.1; simp only [cellsAt, Nat.zero_add, Nat.reduceAdd, and_true] at C3 L3))
      · go_ret
        exact ⟨by rw [← hz]; first | rfl | (rw [← firstC_stop HF.out.1 HF.out.2]; rfl), S3.out.bl⟩
      · go_roundw
        case rel => exact ⟨5, by decide, rfl, firstC_step HF.out.1 HF.out.2, ⟨S3.out.less (List.Sublist.cons _ (List.Sublist.refl _)) (by simp)⟩⟩
        case measure => simp [intOf]
    · obtain ⟨b, hb⟩ : ∃ b, ruleB c 6 = b := ⟨_, rfl⟩
      have HR : Asd (∀ W, Calls Try.prog 39 #[.agg #[.int .i64 (c 0), .int .i64 (c 1), .int .i64 (c 2), .int .i64 (c 3), .int .i64 (c 4), .int .i64 (c 5), .int .i64 (c 6), .int .i64 (c 7), .int .i64 (c 8), .int .i64 (c 9), .int .i64 (c 10), .int .i64 (c 11), .int .i64 (c 12), .int .i64 (c 13), .int .i64 (c 14), .int .i64 (c 15), .int .i64 (c 16), .int .i64 (c 17), .int .i64 (c 18), .int .i64 (c 19), .int .i64 (c 20), .int .i64 (c 21), .int .i64 (c 22), .int .i64 (c 23), .int .i64 (c 24), .int .i64 (c 25), .int .i64 (c 26), .int .i64 (c 27), .int .i64 (c 28), .int .i64 (c 29), .int .i64 (c 30)]] W fun e w' => e = .returned (.bool b) ∧ Below W.heap.size W w') := ⟨fun W => by
        have q := conf_r6 c W
        rw [← hb]; exact q⟩
      have HF := Asd.mk (And.intro hf hb)
      clear hf hb
      cases b
      all_goals go_wp2_with (first | (refine wpList_whole 25 rfl rfl w.heap.size (by kernel_rfl) (St.at (w0 := w) (bs := [_, _]) (gs := []) (by (focus (with_reducible repeat (first | exact S2.out | apply St.lay)))) 1 rfl) (by kernel_rfl) (by kernel_rfl) ?_) | (go_at_call 39; refine (HR.out _).mono ?_; rintro e w3 ⟨rfl, hb3⟩; apply St.step (w0 := w) (hb := hb3); (focus (with_reducible repeat (first | exact S2.out | apply St.lay))); intro S3; clear hb3; (try clear C2); have C3 := S3.out.facts.2.2.2.1; have L3 := S3.out.facts.1; simp only [cellsAt, Nat.zero_add, Nat.reduceAdd, and_true] at C3 L3))
      · go_ret
        exact ⟨by rw [← hz]; first | rfl | (rw [← firstC_stop HF.out.1 HF.out.2]; rfl), S3.out.bl⟩
      · go_roundw
        case rel => exact ⟨6, by decide, rfl, firstC_step HF.out.1 HF.out.2, ⟨S3.out.less (List.Sublist.cons _ (List.Sublist.refl _)) (by simp)⟩⟩
        case measure => simp [intOf]
    · obtain ⟨b, hb⟩ : ∃ b, ruleB c 7 = b := ⟨_, rfl⟩
      have HR : Asd (∀ W, Calls Try.prog 41 #[.agg #[.int .i64 (c 0), .int .i64 (c 1), .int .i64 (c 2), .int .i64 (c 3), .int .i64 (c 4), .int .i64 (c 5), .int .i64 (c 6), .int .i64 (c 7), .int .i64 (c 8), .int .i64 (c 9), .int .i64 (c 10), .int .i64 (c 11), .int .i64 (c 12), .int .i64 (c 13), .int .i64 (c 14), .int .i64 (c 15), .int .i64 (c 16), .int .i64 (c 17), .int .i64 (c 18), .int .i64 (c 19), .int .i64 (c 20), .int .i64 (c 21), .int .i64 (c 22), .int .i64 (c 23), .int .i64 (c 24), .int .i64 (c 25), .int .i64 (c 26), .int .i64 (c 27), .int .i64 (c 28), .int .i64 (c 29), .int .i64 (c 30)]] W fun e w' => e = .returned (.bool b) ∧ Below W.heap.size W w') := ⟨fun W => by
        have q := conf_r7 c W
        rw [← hb]; exact q⟩
      have HF := Asd.mk (And.intro hf hb)
      clear hf hb
      cases b
      all_goals go_wp2_with (first | (refine wpList_whole 25 rfl rfl w.heap.size (by kernel_rfl) (St.at (w0 := w) (bs := [_, _]) (gs := []) (by (focus (with_reducible repeat (first | exact S2.out | apply St.lay)))) 1 rfl) (by kernel_rfl) (by kernel_rfl) ?_) | (go_at_call 41; refine (HR.out _).mono ?_; rintro e w3 ⟨rfl, hb3⟩; apply St.step (w0 := w) (hb := hb3); (focus (with_reducible repeat (first | exact S2.out | apply St.lay))); intro S3; clear hb3; (try clear C2); have C3 := S3.out.facts.2.2.2.1; have L3 := S3.out.facts.1; simp only [cellsAt, Nat.zero_add, Nat.reduceAdd, and_true] at C3 L3))
      · go_ret
        exact ⟨by rw [← hz]; first | rfl | (rw [← firstC_stop HF.out.1 HF.out.2]; rfl), S3.out.bl⟩
      · go_roundw
        case rel => exact ⟨7, by decide, rfl, firstC_step HF.out.1 HF.out.2, ⟨S3.out.less (List.Sublist.cons _ (List.Sublist.refl _)) (by simp)⟩⟩
        case measure => simp [intOf]
    · obtain ⟨b, hb⟩ : ∃ b, ruleB c 8 = b := ⟨_, rfl⟩
      have HR : Asd (∀ W, Calls Try.prog 43 #[.agg #[.int .i64 (c 0), .int .i64 (c 1), .int .i64 (c 2), .int .i64 (c 3), .int .i64 (c 4), .int .i64 (c 5), .int .i64 (c 6), .int .i64 (c 7), .int .i64 (c 8), .int .i64 (c 9), .int .i64 (c 10), .int .i64 (c 11), .int .i64 (c 12), .int .i64 (c 13), .int .i64 (c 14), .int .i64 (c 15), .int .i64 (c 16), .int .i64 (c 17), .int .i64 (c 18), .int .i64 (c 19), .int .i64 (c 20), .int .i64 (c 21), .int .i64 (c 22), .int .i64 (c 23), .int .i64 (c 24), .int .i64 (c 25), .int .i64 (c 26), .int .i64 (c 27), .int .i64 (c 28), .int .i64 (c 29), .int .i64 (c 30)]] W fun e w' => e = .returned (.bool b) ∧ Below W.heap.size W w') := ⟨fun W => by
        have q := conf_r8 c W
        rw [← hb]; exact q⟩
      have HF := Asd.mk (And.intro hf hb)
      clear hf hb
      cases b
      all_goals go_wp2_with (first | (refine wpList_whole 25 rfl rfl w.heap.size (by kernel_rfl) (St.at (w0 := w) (bs := [_, _]) (gs := []) (by (focus (with_reducible repeat (first | exact S2.out | apply St.lay)))) 1 rfl) (by kernel_rfl) (by kernel_rfl) ?_) | (go_at_call 43; refine (HR.out _).mono ?_; rintro e w3 ⟨rfl, hb3⟩; apply St.step (w0 := w) (hb := hb3); (focus (with_reducible repeat (first | exact S2.out | apply St.lay))); intro S3; clear hb3; (try clear C2); have C3 := S3.out.facts.2.2.2.1; have L3 := S3.out.facts.1; simp only [cellsAt, Nat.zero_add, Nat.reduceAdd, and_true] at C3 L3))
      · go_ret
        exact ⟨by rw [← hz]; first | rfl | (rw [← firstC_stop HF.out.1 HF.out.2]; rfl), S3.out.bl⟩
      · go_roundw
        case rel => exact ⟨8, by decide, rfl, firstC_step HF.out.1 HF.out.2, ⟨S3.out.less (List.Sublist.cons _ (List.Sublist.refl _)) (by simp)⟩⟩
        case measure => simp [intOf]
    · obtain ⟨b, hb⟩ : ∃ b, ruleB c 9 = b := ⟨_, rfl⟩
      have HR : Asd (∀ W, Calls Try.prog 44 #[.agg #[.int .i64 (c 0), .int .i64 (c 1), .int .i64 (c 2), .int .i64 (c 3), .int .i64 (c 4), .int .i64 (c 5), .int .i64 (c 6), .int .i64 (c 7), .int .i64 (c 8), .int .i64 (c 9), .int .i64 (c 10), .int .i64 (c 11), .int .i64 (c 12), .int .i64 (c 13), .int .i64 (c 14), .int .i64 (c 15), .int .i64 (c 16), .int .i64 (c 17), .int .i64 (c 18), .int .i64 (c 19), .int .i64 (c 20), .int .i64 (c 21), .int .i64 (c 22), .int .i64 (c 23), .int .i64 (c 24), .int .i64 (c 25), .int .i64 (c 26), .int .i64 (c 27), .int .i64 (c 28), .int .i64 (c 29), .int .i64 (c 30)]] W fun e w' => e = .returned (.bool b) ∧ Below W.heap.size W w') := ⟨fun W => by
        have q := conf_r9 c W
        rw [← hb]; exact q⟩
      have HF := Asd.mk (And.intro hf hb)
      clear hf hb
      cases b
      all_goals go_wp2_with (first | (refine wpList_whole 25 rfl rfl w.heap.size (by kernel_rfl) (St.at (w0 := w) (bs := [_, _]) (gs := []) (by (focus (with_reducible repeat (first | exact S2.out | apply St.lay)))) 1 rfl) (by kernel_rfl) (by kernel_rfl) ?_) | (go_at_call 44; refine (HR.out _).mono ?_; rintro e w3 ⟨rfl, hb3⟩; apply St.step (w0 := w) (hb := hb3); (focus (with_reducible repeat (first | exact S2.out | apply St.lay))); intro S3; clear hb3; (try clear C2); have C3 := S3.out.facts.2.2.2.1; have L3 := S3.out.facts.1; simp only [cellsAt, Nat.zero_add, Nat.reduceAdd, and_true] at C3 L3))
      · go_ret
        exact ⟨by rw [← hz]; first | rfl | (rw [← firstC_stop HF.out.1 HF.out.2]; rfl), S3.out.bl⟩
      · go_roundw
        case rel => exact ⟨9, by decide, rfl, firstC_step HF.out.1 HF.out.2, ⟨S3.out.less (List.Sublist.cons _ (List.Sublist.refl _)) (by simp)⟩⟩
        case measure => simp [intOf]
    · obtain ⟨b, hb⟩ : ∃ b, ruleB c 10 = b := ⟨_, rfl⟩
      have HR : Asd (∀ W, Calls Try.prog 46 #[.agg #[.int .i64 (c 0), .int .i64 (c 1), .int .i64 (c 2), .int .i64 (c 3), .int .i64 (c 4), .int .i64 (c 5), .int .i64 (c 6), .int .i64 (c 7), .int .i64 (c 8), .int .i64 (c 9), .int .i64 (c 10), .int .i64 (c 11), .int .i64 (c 12), .int .i64 (c 13), .int .i64 (c 14), .int .i64 (c 15), .int .i64 (c 16), .int .i64 (c 17), .int .i64 (c 18), .int .i64 (c 19), .int .i64 (c 20), .int .i64 (c 21), .int .i64 (c 22), .int .i64 (c 23), .int .i64 (c 24), .int .i64 (c 25), .int .i64 (c 26), .int .i64 (c 27), .int .i64 (c 28), .int .i64 (c 29), .int .i64 (c 30)]] W fun e w' => e = .returned (.bool b) ∧ Below W.heap.size W w') := ⟨fun W => by
        have q := conf_r10 c W
        rw [← hb]; exact q⟩
      have HF := Asd.mk (And.intro hf hb)
      clear hf hb
      cases b
      all_goals go_wp2_with (first | (refine wpList_whole 25 rfl rfl w.heap.size (by kernel_rfl) (St.at (w0 := w) (bs := [_, _]) (gs := []) (by (focus (with_reducible repeat (first | exact S2.out | apply St.lay)))) 1 rfl) (by kernel_rfl) (by kernel_rfl) ?_) | (go_at_call 46; refine (HR.out _).mono ?_; rintro e w3 ⟨rfl, hb3⟩; apply St.step (w0 := w) (hb := hb3); (focus (with_reducible repeat (first | exact S2.out | apply St.lay))); intro S3; clear hb3; (try clear C2); have C3 := S3.out.facts.2.2.2.1; have L3 := S3.out.facts.1; simp only [cellsAt, Nat.zero_add, Nat.reduceAdd, and_true] at C3 L3))
      · go_ret
        exact ⟨by rw [← hz]; first | rfl | (rw [← firstC_stop HF.out.1 HF.out.2]; rfl), S3.out.bl⟩
      · go_roundw
        case rel => exact ⟨10, by decide, rfl, firstC_step HF.out.1 HF.out.2, ⟨S3.out.less (List.Sublist.cons _ (List.Sublist.refl _)) (by simp)⟩⟩
        case measure => simp [intOf]
    · obtain ⟨b, hb⟩ : ∃ b, ruleB c 11 = b := ⟨_, rfl⟩
      have HR : Asd (∀ W, Calls Try.prog 47 #[.agg #[.int .i64 (c 0), .int .i64 (c 1), .int .i64 (c 2), .int .i64 (c 3), .int .i64 (c 4), .int .i64 (c 5), .int .i64 (c 6), .int .i64 (c 7), .int .i64 (c 8), .int .i64 (c 9), .int .i64 (c 10), .int .i64 (c 11), .int .i64 (c 12), .int .i64 (c 13), .int .i64 (c 14), .int .i64 (c 15), .int .i64 (c 16), .int .i64 (c 17), .int .i64 (c 18), .int .i64 (c 19), .int .i64 (c 20), .int .i64 (c 21), .int .i64 (c 22), .int .i64 (c 23), .int .i64 (c 24), .int .i64 (c 25), .int .i64 (c 26), .int .i64 (c 27), .int .i64 (c 28), .int .i64 (c 29), .int .i64 (c 30)]] W fun e w' => e = .returned (.bool b) ∧ Below W.heap.size W w') := ⟨fun W => by
        have q := conf_r11 c hc W
        rw [← hb]; exact q⟩
      have HF := Asd.mk (And.intro hf hb)
      clear hf hb
      cases b
      all_goals go_wp2_with (first | (refine wpList_whole 25 rfl rfl w.heap.size (by kernel_rfl) (St.at (w0 := w) (bs := [_, _]) (gs := []) (by (focus (with_reducible repeat (first | exact S2.out | apply St.lay)))) 1 rfl) (by kernel_rfl) (by kernel_rfl) ?_) | (go_at_call 47; refine (HR.out _).mono ?_; rintro e w3 ⟨rfl, hb3⟩; apply St.step (w0 := w) (hb := hb3); (focus (with_reducible repeat (first | exact S2.out | apply St.lay))); intro S3; clear hb3; (try clear C2); have C3 := S3.out.facts.2.2.2.1; have L3 := S3.out.facts.1; simp only [cellsAt, Nat.zero_add, Nat.reduceAdd, and_true] at C3 L3))
      · go_ret
        exact ⟨by rw [← hz]; first | rfl | (rw [← firstC_stop HF.out.1 HF.out.2]; rfl), S3.out.bl⟩
      · go_roundw
        case rel => exact ⟨11, by decide, rfl, firstC_step HF.out.1 HF.out.2, ⟨S3.out.less (List.Sublist.cons _ (List.Sublist.refl _)) (by simp)⟩⟩
        case measure => simp [intOf]
    · obtain ⟨b, hb⟩ : ∃ b, ruleB c 12 = b := ⟨_, rfl⟩
      have HR : Asd (∀ W, Calls Try.prog 48 #[.agg #[.int .i64 (c 0), .int .i64 (c 1), .int .i64 (c 2), .int .i64 (c 3), .int .i64 (c 4), .int .i64 (c 5), .int .i64 (c 6), .int .i64 (c 7), .int .i64 (c 8), .int .i64 (c 9), .int .i64 (c 10), .int .i64 (c 11), .int .i64 (c 12), .int .i64 (c 13), .int .i64 (c 14), .int .i64 (c 15), .int .i64 (c 16), .int .i64 (c 17), .int .i64 (c 18), .int .i64 (c 19), .int .i64 (c 20), .int .i64 (c 21), .int .i64 (c 22), .int .i64 (c 23), .int .i64 (c 24), .int .i64 (c 25), .int .i64 (c 26), .int .i64 (c 27), .int .i64 (c 28), .int .i64 (c 29), .int .i64 (c 30)]] W fun e w' => e = .returned (.bool b) ∧ Below W.heap.size W w') := ⟨fun W => by
        have q := conf_r12 c W
        rw [← hb]; exact q⟩
      have HF := Asd.mk (And.intro hf hb)
      clear hf hb
      cases b
      all_goals go_wp2_with (first | (refine wpList_whole 25 rfl rfl w.heap.size (by kernel_rfl) (St.at (w0 := w) (bs := [_, _]) (gs := []) (by (focus (with_reducible repeat (first | exact S2.out | apply St.lay)))) 1 rfl) (by kernel_rfl) (by kernel_rfl) ?_) | (go_at_call 48; refine (HR.out _).mono ?_; rintro e w3 ⟨rfl, hb3⟩; apply St.step (w0 := w) (hb := hb3); (focus (with_reducible repeat (first | exact S2.out | apply St.lay))); intro S3; clear hb3; (try clear C2); have C3 := S3.out.facts.2.2.2.1; have L3 := S3.out.facts.1; simp only [cellsAt, Nat.zero_add, Nat.reduceAdd, and_true] at C3 L3))
      · go_ret
        exact ⟨by rw [← hz]; first | rfl | (rw [← firstC_stop HF.out.1 HF.out.2]; rfl), S3.out.bl⟩
      · go_roundw
        case rel => exact ⟨12, by decide, rfl, firstC_step HF.out.1 HF.out.2, ⟨S3.out.less (List.Sublist.cons _ (List.Sublist.refl _)) (by simp)⟩⟩
        case measure => simp [intOf]
    · obtain ⟨b, hb⟩ : ∃ b, ruleB c 13 = b := ⟨_, rfl⟩
      have HR : Asd (∀ W, Calls Try.prog 49 #[.agg #[.int .i64 (c 0), .int .i64 (c 1), .int .i64 (c 2), .int .i64 (c 3), .int .i64 (c 4), .int .i64 (c 5), .int .i64 (c 6), .int .i64 (c 7), .int .i64 (c 8), .int .i64 (c 9), .int .i64 (c 10), .int .i64 (c 11), .int .i64 (c 12), .int .i64 (c 13), .int .i64 (c 14), .int .i64 (c 15), .int .i64 (c 16), .int .i64 (c 17), .int .i64 (c 18), .int .i64 (c 19), .int .i64 (c 20), .int .i64 (c 21), .int .i64 (c 22), .int .i64 (c 23), .int .i64 (c 24), .int .i64 (c 25), .int .i64 (c 26), .int .i64 (c 27), .int .i64 (c 28), .int .i64 (c 29), .int .i64 (c 30)]] W fun e w' => e = .returned (.bool b) ∧ Below W.heap.size W w') := ⟨fun W => by
        have q := conf_r13 c hc W
        rw [← hb]; exact q⟩
      have HF := Asd.mk (And.intro hf hb)
      clear hf hb
      cases b
      all_goals go_wp2_with (first | (refine wpList_whole 25 rfl rfl w.heap.size (by kernel_rfl) (St.at (w0 := w) (bs := [_, _]) (gs := []) (by (focus (with_reducible repeat (first | exact S2.out | apply St.lay)))) 1 rfl) (by kernel_rfl) (by kernel_rfl) ?_) | (go_at_call 49; refine (HR.out _).mono ?_; rintro e w3 ⟨rfl, hb3⟩; apply St.step (w0 := w) (hb := hb3); (focus (with_reducible repeat (first | exact S2.out | apply St.lay))); intro S3; clear hb3; (try clear C2); have C3 := S3.out.facts.2.2.2.1; have L3 := S3.out.facts.1; simp only [cellsAt, Nat.zero_add, Nat.reduceAdd, and_true] at C3 L3))
      · go_ret
        exact ⟨by rw [← hz]; first | rfl | (rw [← firstC_stop HF.out.1 HF.out.2]; rfl), S3.out.bl⟩
      · go_roundw
        case rel => exact ⟨13, by decide, rfl, firstC_step HF.out.1 HF.out.2, ⟨S3.out.less (List.Sublist.cons _ (List.Sublist.refl _)) (by simp)⟩⟩
        case measure => simp [intOf]
    · obtain ⟨b, hb⟩ : ∃ b, ruleB c 14 = b := ⟨_, rfl⟩
      have HR : Asd (∀ W, Calls Try.prog 50 #[.agg #[.int .i64 (c 0), .int .i64 (c 1), .int .i64 (c 2), .int .i64 (c 3), .int .i64 (c 4), .int .i64 (c 5), .int .i64 (c 6), .int .i64 (c 7), .int .i64 (c 8), .int .i64 (c 9), .int .i64 (c 10), .int .i64 (c 11), .int .i64 (c 12), .int .i64 (c 13), .int .i64 (c 14), .int .i64 (c 15), .int .i64 (c 16), .int .i64 (c 17), .int .i64 (c 18), .int .i64 (c 19), .int .i64 (c 20), .int .i64 (c 21), .int .i64 (c 22), .int .i64 (c 23), .int .i64 (c 24), .int .i64 (c 25), .int .i64 (c 26), .int .i64 (c 27), .int .i64 (c 28), .int .i64 (c 29), .int .i64 (c 30)]] W fun e w' => e = .returned (.bool b) ∧ Below W.heap.size W w') := ⟨fun W => by
        have q := conf_r14 c W
        rw [← hb]; exact q⟩
      have HF := Asd.mk (And.intro hf hb)
      clear hf hb
      cases b
      all_goals go_wp2_with (first | (refine wpList_whole 25 rfl rfl w.heap.size (by kernel_rfl) (St.at (w0 := w) (bs := [_, _]) (gs := []) (by (focus (with_reducible repeat (first | exact S2.out | apply St.lay)))) 1 rfl) (by kernel_rfl) (by kernel_rfl) ?_) | (go_at_call 50; refine (HR.out _).mono ?_; rintro e w3 ⟨rfl, hb3⟩; apply St.step (w0 := w) (hb := hb3); (focus (with_reducible repeat (first | exact S2.out | apply St.lay))); intro S3; clear hb3; (try clear C2); have C3 := S3.out.facts.2.2.2.1; have L3 := S3.out.facts.1; simp only [cellsAt, Nat.zero_add, Nat.reduceAdd, and_true] at C3 L3))
      · go_ret
        exact ⟨by rw [← hz]; first | rfl | (rw [← firstC_stop HF.out.1 HF.out.2]; rfl), S3.out.bl⟩
      · go_roundw
        case rel => exact ⟨14, by decide, rfl, firstC_step HF.out.1 HF.out.2, ⟨S3.out.less (List.Sublist.cons _ (List.Sublist.refl _)) (by simp)⟩⟩
        case measure => simp [intOf]
    · go_wp2
      go_ret
      exact ⟨by rw [← hz, ← hf]; rfl, S2.out.bl⟩
end Go.Proofs.Ytpgkchbgjciinaa
