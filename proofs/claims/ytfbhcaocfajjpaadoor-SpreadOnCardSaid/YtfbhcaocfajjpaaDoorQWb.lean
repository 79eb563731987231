/- Walks of the layer 'wide', first part. -/
import Derived.Test.YtfbhcaocfajjpaaDoorRows
import Derived.Test.YtfbhcaocfajjpaaDoorQWa
import Derived.Test.YtfbhcaocfajjpaaDoorQWk
import Derived.WalkKit
import Derived.WalkSpells
import Derived.Lib.Hide
import Derived.WalkLawsBesides
import Derived.Laws.Externs
import Derived.Shelf.Spec.BitsCarry
namespace Go.Proofs.YtfbhcaocfajjpaaDoor
open Go.RowKit

theorem add64 (x y c : Int) (hx : 0 ≤ x) (hy : 0 ≤ y) (hc0 : 0 ≤ c) (hc : c ≤ 1) (w : World) : (callFunc 125 #[.int .u64 x, .int .u64 y, .int .u64 c]).run Tryd.prog w =
    .ok (.value (.tuple #[.int .u64 ((x + y + c) % 18446744073709551616), .int .u64 ((x + y + c) / 18446744073709551616)])) w := by
  obtain ⟨x, rfl⟩ := Int.eq_ofNat_of_zero_le hx
  obtain ⟨y, rfl⟩ := Int.eq_ofNat_of_zero_le hy
  obtain ⟨c, rfl⟩ := Int.eq_ofNat_of_zero_le hc0
  rw [run_callFunc_extern Tryd.func125 (by kernel_rfl) (by kernel_rfl) (by kernel_rfl) (e := add64Entry) (by kernel_rfl), run_add64 x y c (by omega) (by omega) (by omega) (by omega)]
  rfl
theorem sub64 (x y b : Int) (hx : 0 ≤ x) (hy : 0 ≤ y) (hy' : y < 18446744073709551616) (hb0 : 0 ≤ b) (hb : b ≤ 1) (w : World) : (callFunc 142 #[.int .u64 x, .int .u64 y, .int .u64 b]).run Tryd.prog w =
    .ok (.value (.tuple #[.int .u64 ((x - y - b) % 18446744073709551616), .int .u64 (bor x (y + b))])) w := by
  obtain ⟨x, rfl⟩ := Int.eq_ofNat_of_zero_le hx
  obtain ⟨y, rfl⟩ := Int.eq_ofNat_of_zero_le hy
  obtain ⟨b, rfl⟩ := Int.eq_ofNat_of_zero_le hb0
  have e1 : (((x + 18446744073709551616 - y - b) % 18446744073709551616 : Nat) : Int) = ((x : Int) - y - b) % 18446744073709551616 := by omega
  have e2 : ((if x < y + b then 1 else 0 : Nat) : Int) = bor (x : Int) ((y : Int) + b) := by unfold bor; split <;> split <;> omega
  rw [← e1, ← e2]
  rw [run_callFunc_extern Tryd.func142 (by kernel_rfl) (by kernel_rfl) (by kernel_rfl) (e := sub64Entry) (by kernel_rfl), run_sub64 x y b (by omega)]
  simp only [Result.andThen]
theorem add64_0 (x y : Int) (hx : 0 ≤ x) (hy : 0 ≤ y) (w : World) : (callFunc 125 #[.int .u64 x, .int .u64 y, .int .u64 0]).run Tryd.prog w =
    .ok (.value (.tuple #[.int .u64 ((x + y) % 18446744073709551616), .int .u64 ((x + y) / 18446744073709551616)])) w := by
  simpa using add64 x y 0 hx hy (Int.le_refl 0) (by decide) w
theorem sub64_0 (x y : Int) (hx : 0 ≤ x) (hy : 0 ≤ y) (hy' : y < 18446744073709551616) (w : World) : (callFunc 142 #[.int .u64 x, .int .u64 y, .int .u64 0]).run Tryd.prog w =
    .ok (.value (.tuple #[.int .u64 ((x - y) % 18446744073709551616), .int .u64 (bor x y)])) w := by
  simpa using sub64 x y 0 hx hy hy' (Int.le_refl 0) (by decide) w

set_option maxHeartbeats 400000 in
theorem wide_Of (x : Int) (hx : I64 x) (w : World) :
    Calls Tryd.prog 98 #[.int .i64 x] w fun e w' => e = .returned (.agg #[.int .i64 (whi x), .int .u64 (wlo x)]) ∧ Below w.heap.size w w' := by
  have e1 := whi_of_i64 hx
  have e2 := wlo_eq x
  go_enter Tryd.func98, Tryd.ntmps98
  go_wp2
  refine bodyPost_ret (v := .agg #[.int .i64 (whi x), .int .u64 (wlo x)]) (by simp [results, Tryd.results98, go_sem]; rw [e1]) rfl ⟨rfl, (by repeat (first | exact Below.refl _ _ | assumption | refine bl_alloc ?_ _ | refine bl_drewN ?_ _ | refine bl_drew ?_ | refine bl_set ?_ (by first | (simp; done) | (simp; omega) | (dsimp only; omega)) _ | refine bl_then ?_ (by assumption)))⟩

set_option maxHeartbeats 400000 in
theorem wide_size (x : Int) (hx : I64 x) (w : World) :
    Calls Tryd.prog 126 #[.int .i64 x] w fun e w' => e = .returned (.int .u64 x.natAbs) ∧ w = w' := by
  have e1 : x < 0 → IntKind.u64.wrap (-IntKind.u64.wrap x) = x.natAbs := by intro h; unfold I64 at hx; simp only [IntKind.wrap_u64]; omega
  have e2 : ¬ x < 0 → IntKind.u64.wrap x = x.natAbs := by intro h; unfold I64 at hx; simp only [IntKind.wrap_u64]; omega
  have H1 := Lib.hid e1; have H2 := Lib.hid e2; clear e1 e2
  go_enter Tryd.func126, Tryd.ntmps126
  go_wp2
  all_goals go_ret
  · exact ⟨ret_int (H1.out (by omega)), rfl⟩
  · exact ⟨ret_int (H2.out (by omega)), rfl⟩

set_option maxHeartbeats 400000 in
theorem wide_plus (a b : Int) (w : World) :
    Calls Tryd.prog 97 #[.agg #[.int .i64 (whi a), .int .u64 (wlo a)], .agg #[.int .i64 (whi b), .int .u64 (wlo b)]] w fun e w' => e = .returned (.agg #[.int .i64 (whi (wrapW (a + b))), .int .u64 (wlo (wrapW (a + b)))]) ∧ Below w.heap.size w w' := by
  obtain ⟨a1, a2⟩ := wlo_u64 a
  obtain ⟨b1, b2⟩ := wlo_u64 b
  have E1 := Lib.hid (plus_lo a b); have E2 := Lib.hid (plus_hi a b)
  have k0 : 0 ≤ (wlo a + wlo b) / 18446744073709551616 := by omega
  have k1 : (wlo a + wlo b) / 18446744073709551616 ≤ 1 := by omega
  have c1 : 0 ≤ IntKind.u64.wrap (whi a) := by simp only [IntKind.wrap_u64]; omega
  have c2 : 0 ≤ IntKind.u64.wrap (whi b) := by simp only [IntKind.wrap_u64]; omega
  go_enter Tryd.func97, Tryd.ntmps97
  go_wp2_with (first | simp only [add64_0 _ _ a1 b1] | simp only [add64 _ _ _ c1 c2 k0 k1])
  refine bodyPost_ret (v := .agg #[.int .i64 (whi (wrapW (a + b))), .int .u64 (wlo (wrapW (a + b)))]) (by simp [results, Tryd.results97, go_sem]; exact ⟨E2.out, E1.out⟩) rfl ⟨rfl, (by repeat (first | exact Below.refl _ _ | assumption | refine bl_alloc ?_ _ | refine bl_drewN ?_ _ | refine bl_drew ?_ | refine bl_set ?_ (by first | (simp; done) | (simp; omega) | (dsimp only; omega)) _ | refine bl_then ?_ (by assumption)))⟩

set_option maxHeartbeats 400000 in
theorem wide_less (a b : Int) (w : World) :
    Calls Tryd.prog 127 #[.agg #[.int .i64 (whi a), .int .u64 (wlo a)], .agg #[.int .i64 (whi b), .int .u64 (wlo b)]] w fun e w' => e = .returned (.agg #[.int .i64 (whi (wrapW (a - b))), .int .u64 (wlo (wrapW (a - b)))]) ∧ Below w.heap.size w w' := by
  obtain ⟨a1, a2⟩ := wlo_u64 a
  obtain ⟨b1, b2⟩ := wlo_u64 b
  have E1 := Lib.hid (less_lo a b); have E2 := Lib.hid (less_hi a b)
  obtain ⟨k0, k1⟩ := bor_bd (wlo a) (wlo b)
  have c1 : 0 ≤ IntKind.u64.wrap (whi a) := by simp only [IntKind.wrap_u64]; omega
  have c2 : 0 ≤ IntKind.u64.wrap (whi b) := by simp only [IntKind.wrap_u64]; omega
  have c3 : IntKind.u64.wrap (whi b) < 18446744073709551616 := by simp only [IntKind.wrap_u64]; omega
  go_enter Tryd.func127, Tryd.ntmps127
  go_wp2_with (first | simp only [sub64_0 _ _ a1 b1 b2] | simp only [sub64 _ _ _ c1 c2 c3 k0 k1])
  refine bodyPost_ret (v := .agg #[.int .i64 (whi (wrapW (a - b))), .int .u64 (wlo (wrapW (a - b)))]) (by simp [results, Tryd.results127, go_sem]; exact ⟨E2.out, E1.out⟩) rfl ⟨rfl, (by repeat (first | exact Below.refl _ _ | assumption | refine bl_alloc ?_ _ | refine bl_drewN ?_ _ | refine bl_drew ?_ | refine bl_set ?_ (by first | (simp; done) | (simp; omega) | (dsimp only; omega)) _ | refine bl_then ?_ (by assumption)))⟩
end Go.Proofs.YtfbhcaocfajjpaaDoor
