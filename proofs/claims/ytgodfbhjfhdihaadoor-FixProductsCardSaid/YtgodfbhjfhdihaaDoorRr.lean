/- Walks of the reference's big numbers, sixteenth part: the lowest 64 bits. -/
import Derived.Test.YtgodfbhjfhdihaaDoorRq
namespace Go.Proofs.YtgodfbhjfhdihaaDoor
open Go.RowKit
attribute [local go_sem] nlt2 nlt3 nlt4 nlt5 nlt6 nlt7 nlt8 nlt9 nlt10 nlt11 nlt12

theorem low_step {xs : List Int} (h : Dg xs) {k : Nat} {n : Int} (hv : vald (xs.take 4) = vald (xs.take (k + 1)) + pB (k + 1) * n) (h0 : 0 ≤ n) (hb : n < pB (3 - k)) (hk : k ≤ 3) :
    vald (xs.take 4) = vald (xs.take k) + pB k * (65536 * n + gd xs k) ∧ 0 ≤ 65536 * n + gd xs k ∧ 65536 * n + gd xs k < pB (4 - k) ∧ 65536 * n + gd xs k < 18446744073709551616 := by
  have hg := gd_bd h k
  have e : pB (4 - k) = 65536 * pB (3 - k) := by rw [← pB_succ]; congr 1; omega
  have e4 : pB 4 = 18446744073709551616 := by decide
  have hm : pB (4 - k) ≤ pB 4 := pB_mono (by omega)
  refine ⟨?_, by omega, by omega, by omega⟩
  rw [hv, take_gd, pB_succ, Int.mul_add, Int.mul_left_comm (pB k), Int.mul_assoc]
  omega

set_option maxRecDepth 100000 in
set_option maxHeartbeats 2000000 in
theorem ref_low (A : Option Addr) (c : Nat) (xs : List Int) (hd : Dg xs) (w : World) (h : RS w A c xs) :
    Calls Tryd.prog 62 #[.slice A xs.length c] w fun e w' => e = .returned (.int .u64 (vald (xs.take 4))) ∧ w = w' := by
  have HA := Asd.mk h
  clear h
  go_enter Tryd.func62, Tryd.ntmps62
  go_wp2
  go_loop [3, 4] (fun v3 v4 => ∃ (k : Nat) (n : Int), k ≤ 4 ∧ v4 = .int .i64 (k - 1) ∧ v3 = .int .u64 n ∧ 0 ≤ n ∧ Asd (n < pB (4 - k) ∧ vald (xs.take 4) = vald (xs.take k) + pB k * n)) (fun _ v4 => (intOf v4 + 1).toNat)
  case atStart => exact ⟨4, 0, by omega, rfl, rfl, by omega, ⟨by decide, by omega⟩⟩
  case round =>
    obtain ⟨k, n, hk, rfl, rfl, hn, HV⟩ := hrel
    by_cases hgo : 0 < k
    · obtain ⟨m, rfl⟩ : ∃ m, k = m + 1 := ⟨k - 1, by omega⟩
      rw [show (((m + 1 : Nat) : Int) - 1) = (m : Int) from by omega]
      have hs := low_step hd HV.out.2 hn (by have := HV.out.1; rw [show 4 - (m + 1) = 3 - m from by omega] at this; exact this) (by omega)
      have HS := Asd.mk hs
      have e1 : IntKind.u64.wrap (65536 * n) = 65536 * n := by have := gd_bd hd m; rw [IntKind.wrap_u64]; omega
      have e2 : IntKind.u64.wrap (65536 * n + gd xs m) = 65536 * n + gd xs m := by rw [IntKind.wrap_u64]; omega
      clear hs
      go_wp2_with (go_at_call 83; refine (ref_digit A c xs m _ (by exact HA.out)).mono ?_; rintro e w' ⟨rfl, rfl⟩)
      go_round
      case rel => exact ⟨m, _, by omega, rfl, rfl, HS.out.2.1, ⟨HS.out.2.2.1, HS.out.1⟩⟩
      case measure => simp [intOf]
    · obtain rfl : k = 0 := by omega
      rw [show (((0 : Nat) : Int) - 1) = -1 from by omega]
      have HF := Asd.mk (show n = vald (xs.take 4) by have := HV.out.2; simp [vald, pB] at this; omega)
      go_wp2
      go_ret
      exact ⟨ret_int HF.out, rfl⟩
end Go.Proofs.YtgodfbhjfhdihaaDoor
