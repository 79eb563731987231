/- Walks of the laws of layer 15 (accel): the chapter's example. -/
import Derived.Test.YtpgkchbgjciinaaAb
namespace Go.Proofs.Ytpgkchbgjciinaa
open Go.RowKit
set_option linter.unusedSimpArgs false
set_option linter.unusedVariables false
attribute [local go_sem] nlt2 nlt3 nlt4 nlt5 nlt6 nlt7 nlt8 nlt9 nlt10 nlt11 nlt12
theorem new_def (w0 w : World) (bs : Blks) (S0 : Asd (St w0 w bs [])) :
    Calls Try.prog 15 #[.agg #[.int .i64 1024, .int .i64 65536, .int .i64 256, .int .i64 16384, .int .i64 4194304, .int .i64 4096, .int .i64 274877906944, .int .i64 4398046511104, .int .i64 4398046511104, .int .i64 1099511627776, .int .i64 68719476736, .int .i64 256, .int .i64 256, .int .i64 256, .int .i64 1125899906842624, .int .i64 281474976710656, .int .i64 17592186044416, .int .i64 18014398509481984, .int .i64 562949953421312, .int .i64 8796093022208, .int .i64 9, .int .i64 34359738368, .int .i64 17179869184, .int .i64 (-1073741824), .int .i64 536870912, .int .i64 2048, .int .i64 32768, .int .i64 32, .int .i64 64, .int .i64 1280, .int .i64 240]] w fun e w' => ∃ f, e = .returned (.tuple #[.pointer (some ⟨f, 0, none⟩), .int .i64 0]) ∧ St w0 w' ((f, feedL 0 0 defC) :: bs) [] :=
  feed_New defC defC_I64 (by decide +kernel) w0 w bs S0
theorem in_def1 (w0 w : World) (f : Nat) (bs : Blks) (S0 : Asd (St w0 w ((f, feedL 0 0 defC) :: bs) [])) :
    Calls Try.prog 17 #[.pointer (some ⟨f, 0, none⟩), .int .i64 2049] w fun e w' => e = .returned (.tuple #[.int .i64 536870912, .bool false, .bool false]) ∧ St w0 w' ((f, feedL 536870912 0 defC) :: bs) [] := by
  have h := feed_In_ok defC defC_I64 0 0 2049 (by omega) (by decide +kernel) w0 w f bs S0
  rw [show thV defC 2049 = 536870912 from by decide +kernel] at h
  exact h
theorem in_def2 (w0 w : World) (f : Nat) (bs : Blks) (S0 : Asd (St w0 w ((f, feedL 536870912 0 defC) :: bs) [])) :
    Calls Try.prog 17 #[.pointer (some ⟨f, 0, none⟩), .int .i64 40000] w fun e w' => e = .returned (.tuple #[.int .i64 536870912, .bool true, .bool false]) ∧ St w0 w' ((f, feedL 536870912 (0 + 1) defC) :: bs) [] := by
  have h := feed_In_held defC defC_I64 536870912 0 40000 (by omega) (by decide +kernel) w0 w f bs S0
  rw [show decide (defC 27 < 0 + 1) = false from by decide +kernel] at h
  exact h
set_option maxRecDepth 100000 in
set_option maxHeartbeats 4000000 in
theorem law15_fixed (w : World) : Calls Try.prog 16 #[] w fun e w' => e = .returned (.bool true) ∧ Below w.heap.size w w' := by
  have S0 := Asd.mk (St.refl w)
  go_enter Try.func16, Try.ntmps16
  go_wp2_with (first | (go_at_call 17; replace S3 := S3; refine (in_def2 w w3 f [] S3).mono ?_; rintro e w4 ⟨rfl, S4⟩; replace S4 := Asd.mk S4; clear S3) | (go_at_call 17; replace S2 := S2; refine (in_def1 w w2 f [] S2).mono ?_; rintro e w3 ⟨rfl, S3⟩; replace S3 := Asd.mk S3; clear S2) | (go_at_call 15; replace S1 := S1; refine (new_def w w1 [] S1).mono ?_; rintro e w2 ⟨f, rfl, S2⟩; replace S2 := Asd.mk S2; clear S1) | (go_at_call 8; replace S0 := S0; refine (conf_Default _).mono ?_; rintro e w1 ⟨rfl, hb1⟩; have S1 := Asd.mk (S0.out.call hb1); clear hb1 S0))
  go_ret
  exact ⟨rfl, S4.out.bl⟩
end Go.Proofs.Ytpgkchbgjciinaa
