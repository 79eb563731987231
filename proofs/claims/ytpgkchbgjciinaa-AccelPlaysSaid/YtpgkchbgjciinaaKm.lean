/- Walks of the laws of layer 13 (conf): the chapter's example; ConfUsual. -/
import Derived.Test.YtpgkchbgjciinaaKl
namespace Go.Proofs.Ytpgkchbgjciinaa
open Go.RowKit
set_option linter.unusedSimpArgs false
set_option linter.unusedVariables false
attribute [local go_sem] nlt2 nlt3 nlt4 nlt5 nlt6 nlt7 nlt8 nlt9 nlt10 nlt11 nlt12
attribute [local go_sem] eqVec
def defC (i : Nat) : Int := [1024, 65536, 256, 16384, 4194304, 4096, 274877906944, 4398046511104, 4398046511104, 1099511627776, 68719476736, 256, 256, 256, 1125899906842624, 281474976710656, 17592186044416, 18014398509481984, 562949953421312, 8796093022208, 9, 34359738368, 17179869184, (-1073741824), 536870912, 2048, 32768, 32, 64, 1280, 240].getD i 0
theorem defC_I64 (i : Nat) : I64 (defC i) := by
  unfold defC
  rcases Nat.lt_or_ge i 31 with h | h
  · exact (show ∀ i : Fin 31, I64 ([1024, 65536, 256, 16384, 4194304, 4096, 274877906944, 4398046511104, 4398046511104, 1099511627776, 68719476736, 256, 256, 256, 1125899906842624, 281474976710656, 17592186044416, 18014398509481984, 562949953421312, 8796093022208, 9, 34359738368, 17179869184, (-1073741824), 536870912, 2048, 32768, 32, 64, 1280, 240].getD i.1 0) by unfold I64; decide) ⟨i, h⟩
  · rw [List.getD_eq_getElem?_getD, List.getElem?_eq_none (by simpa using h)]; decide
theorem check_def (w : World) : Calls Try.prog 12 #[.agg #[.int .i64 1024, .int .i64 65536, .int .i64 256, .int .i64 16384, .int .i64 4194304, .int .i64 4096, .int .i64 274877906944, .int .i64 4398046511104, .int .i64 4398046511104, .int .i64 1099511627776, .int .i64 68719476736, .int .i64 256, .int .i64 256, .int .i64 256, .int .i64 1125899906842624, .int .i64 281474976710656, .int .i64 17592186044416, .int .i64 18014398509481984, .int .i64 562949953421312, .int .i64 8796093022208, .int .i64 9, .int .i64 34359738368, .int .i64 17179869184, .int .i64 (-1073741824), .int .i64 536870912, .int .i64 2048, .int .i64 32768, .int .i64 32, .int .i64 64, .int .i64 1280, .int .i64 240]] w fun e w' => e = .returned (.int .i64 0) ∧ Below w.heap.size w w' := by
  have h := conf_Check defC defC_I64 w
  rw [show ckC defC = 0 from by decide +kernel] at h
  exact h
def def8C (i : Nat) : Int := [1024, 65536, 256, 16384, 4194304, 4096, 274877906944, 4398046511104, 4398046511104, 1099511627776, 68719476736, 256, 256, 256, 1125899906842624, 281474976710656, 17592186044416, 18014398509481984, 562949953421312, 8796093022208, 0, 34359738368, 17179869184, (-1073741824), 536870912, 2048, 32768, 32, 64, 1280, 240].getD i 0
theorem def8C_I64 (i : Nat) : I64 (def8C i) := by
  unfold def8C
  rcases Nat.lt_or_ge i 31 with h | h
  · exact (show ∀ i : Fin 31, I64 ([1024, 65536, 256, 16384, 4194304, 4096, 274877906944, 4398046511104, 4398046511104, 1099511627776, 68719476736, 256, 256, 256, 1125899906842624, 281474976710656, 17592186044416, 18014398509481984, 562949953421312, 8796093022208, 0, 34359738368, 17179869184, (-1073741824), 536870912, 2048, 32768, 32, 64, 1280, 240].getD i.1 0) by unfold I64; decide) ⟨i, h⟩
  · rw [List.getD_eq_getElem?_getD, List.getElem?_eq_none (by simpa using h)]; decide
theorem check_def8 (w : World) : Calls Try.prog 12 #[.agg #[.int .i64 1024, .int .i64 65536, .int .i64 256, .int .i64 16384, .int .i64 4194304, .int .i64 4096, .int .i64 274877906944, .int .i64 4398046511104, .int .i64 4398046511104, .int .i64 1099511627776, .int .i64 68719476736, .int .i64 256, .int .i64 256, .int .i64 256, .int .i64 1125899906842624, .int .i64 281474976710656, .int .i64 17592186044416, .int .i64 18014398509481984, .int .i64 562949953421312, .int .i64 8796093022208, .int .i64 0, .int .i64 34359738368, .int .i64 17179869184, .int .i64 (-1073741824), .int .i64 536870912, .int .i64 2048, .int .i64 32768, .int .i64 32, .int .i64 64, .int .i64 1280, .int .i64 240]] w fun e w' => e = .returned (.int .i64 8) ∧ Below w.heap.size w w' := by
  have h := conf_Check def8C def8C_I64 w
  rw [show ckC def8C = 8 from by decide +kernel] at h
  exact h
set_option maxRecDepth 100000 in
set_option maxHeartbeats 4000000 in
theorem law13_fixed (w : World) : Calls Try.prog 9 #[] w fun e w' => e = .returned (.bool true) ∧ Below w.heap.size w w' := by
  have S0 := Asd.mk (St.refl w)
  go_enter Try.func9, Try.ntmps9
  go_wp2_with (first | (go_at_call 12; replace S3 := S3; refine (check_def _).mono ?_; rintro e w4 ⟨rfl, hb4⟩; apply St.step (w0 := w) (hb := hb4); (focus (with_reducible repeat (first | exact S3.out | apply St.lay))); intro S4; clear hb4 S3) | (go_at_call 8; replace S2 := S2; refine (conf_Default _).mono ?_; rintro e w3 ⟨rfl, hb3⟩; apply St.step (w0 := w) (hb := hb3); (focus (with_reducible repeat (first | exact S2.out | apply St.lay))); intro S3; clear hb3 S2) | (go_at_call 12; replace S1 := S1; refine (check_def8 _).mono ?_; rintro e w2 ⟨rfl, hb2⟩; apply St.step (w0 := w) (hb := hb2); (focus (with_reducible repeat (first | exact S1.out | apply St.lay))); intro S2; clear hb2 S1) | (refine wpList_whole 25 rfl rfl w1.heap.size (by kernel_rfl) (St.at (St.lay S1.out [.int .i64 1024, .int .i64 65536, .int .i64 256, .int .i64 16384, .int .i64 4194304, .int .i64 4096, .int .i64 274877906944, .int .i64 4398046511104, .int .i64 4398046511104, .int .i64 1099511627776, .int .i64 68719476736, .int .i64 256, .int .i64 256, .int .i64 256, .int .i64 1125899906842624, .int .i64 281474976710656, .int .i64 17592186044416, .int .i64 18014398509481984, .int .i64 562949953421312, .int .i64 8796093022208, .int .i64 0, .int .i64 34359738368, .int .i64 17179869184, .int .i64 (-1073741824), .int .i64 536870912, .int .i64 2048, .int .i64 32768, .int .i64 32, .int .i64 64, .int .i64 1280, .int .i64 240] 25) 0 rfl) (by kernel_rfl) (by kernel_rfl) ?_) | (refine wpList_lay 25 rfl rfl rfl (by kernel_rfl) #[.int .i64 1024, .int .i64 65536, .int .i64 256, .int .i64 16384, .int .i64 4194304, .int .i64 4096, .int .i64 274877906944, .int .i64 4398046511104, .int .i64 4398046511104, .int .i64 1099511627776, .int .i64 68719476736, .int .i64 256, .int .i64 256, .int .i64 256, .int .i64 1125899906842624, .int .i64 281474976710656, .int .i64 17592186044416, .int .i64 18014398509481984, .int .i64 562949953421312, .int .i64 8796093022208, .int .i64 9, .int .i64 34359738368, .int .i64 17179869184, .int .i64 (-1073741824), .int .i64 536870912, .int .i64 2048, .int .i64 32768, .int .i64 32, .int .i64 64, .int .i64 1280, .int .i64 240] rfl (by kernel_rfl) rfl (by kernel_rfl) ?_) | (go_at_call 8; replace S0 := S0; refine (conf_Default _).mono ?_; rintro e w1 ⟨rfl, hb1⟩; apply St.step (w0 := w) (hb := hb1); (focus (with_reducible repeat (first | exact S0.out | apply St.lay))); intro S1; clear hb1 S0))
  go_ret
  exact ⟨rfl, S4.out.bl⟩
end Go.Proofs.Ytpgkchbgjciinaa
