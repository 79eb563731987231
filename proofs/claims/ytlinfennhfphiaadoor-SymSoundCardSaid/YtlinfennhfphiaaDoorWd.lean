/- Walks of the layer 'wide', third part: products; a wide number made a number of 64 bits; how two stand. -/
import Derived.Test.YtlinfennhfphiaaDoorWc
import Derived.Lib.Mul64
import Derived.Laws.Bits64b
namespace Go.Proofs.YtlinfennhfphiaaDoor
open Go.RowKit
attribute [local go_sem] nlt2 nlt3 nlt4 nlt5 nlt6 nlt7 nlt8 nlt9 nlt10 nlt11 nlt12

namespace M64
theorem maskN (a : Nat) (ha : a < 18446744073709551616) : bits .and .u64 (a : Int) 4294967295 = ((a % 4294967296 : Nat) : Int) := by
  have h := bits_and_u64_nat a 4294967295 ha (by omega)
  have e : a &&& 4294967295 = a % 4294967296 := Nat.and_two_pow_sub_one_eq_mod a 32
  rw [e] at h
  exact h
theorem divN (a : Nat) : (a : Int) / 4294967296 = ((a / 4294967296 : Nat) : Int) := by omega
theorem mulN (a b : Nat) : (a : Int) * (b : Int) = ((a * b : Nat) : Int) := (Int.natCast_mul a b).symm
theorem addN (a b : Nat) : (a : Int) + (b : Int) = ((a + b : Nat) : Int) := (Int.natCast_add a b).symm
theorem wrapN (a : Nat) (ha : a < 18446744073709551616) : IntKind.u64.wrap (a : Int) = (a : Int) := by rw [IntKind.wrap_u64]; omega
theorem wrapM (a : Nat) : IntKind.u64.wrap (a : Int) = ((a % 18446744073709551616 : Nat) : Int) := by rw [IntKind.wrap_u64]; omega
end M64

set_option maxHeartbeats 1000000 in
theorem bits_Mul64 (x y : Nat) (hx : x < 18446744073709551616) (hy : y < 18446744073709551616) (w : World) :
    Calls Tryd.prog 88 #[.int .u64 x, .int .u64 y] w fun e w' => e = .returned (.tuple #[.int .u64 ((x * y / 18446744073709551616 : Nat) : Int), .int .u64 ((x * y % 18446744073709551616 : Nat) : Int)]) ∧ w = w' := by
  obtain ⟨bd, bt, bw, hhi⟩ := Lib.mul64_hi x y hx hy
  have ba := Lib.half_mul_le (a := x / 4294967296) (b := y / 4294967296) (by omega) (by omega)
  have bb := Lib.half_mul_le (a := x / 4294967296) (b := y % 4294967296) (by omega) (by omega)
  have bc := Lib.half_mul_le (a := x % 4294967296) (b := y / 4294967296) (by omega) (by omega)
  have ba' : x / 4294967296 * (y / 4294967296) < 18446744073709551616 := by omega
  have bb' : x / 4294967296 * (y % 4294967296) < 18446744073709551616 := by omega
  have bc' : x % 4294967296 * (y / 4294967296) < 18446744073709551616 := by omega
  have bh1 : x / 4294967296 * (y / 4294967296) + (x / 4294967296 * (y % 4294967296) + x % 4294967296 * (y % 4294967296) / 4294967296) / 4294967296 < 18446744073709551616 := by omega
  have bh : x / 4294967296 * (y / 4294967296) + (x / 4294967296 * (y % 4294967296) + x % 4294967296 * (y % 4294967296) / 4294967296) / 4294967296 + ((x / 4294967296 * (y % 4294967296) + x % 4294967296 * (y % 4294967296) / 4294967296) % 4294967296 + x % 4294967296 * (y / 4294967296)) / 4294967296 < 18446744073709551616 := by omega
  go_enter Tryd.func88, Tryd.ntmps88
  go_wp2
  simp only [M64.maskN x hx, M64.maskN y hy, M64.divN, M64.mulN, M64.addN, M64.wrapN _ bd, M64.wrapN _ bb', M64.wrapN _ bt, M64.maskN _ bt, M64.wrapN _ bc', M64.wrapN _ bw, M64.wrapN _ ba', M64.wrapN _ bh1, M64.wrapN _ bh, M64.wrapM (x * y)]
  rw [hhi]
  go_ret2
  exact ⟨rfl, rfl⟩

theorem mul64 (x y : Int) (hx : 0 ≤ x ∧ x ≤ 9223372036854775808) (hy : 0 ≤ y ∧ y ≤ 9223372036854775808) (w : World) :
    Calls Tryd.prog 88 #[.int .u64 x, .int .u64 y] w fun e w' => e = .returned (.tuple #[.int .u64 (x * y / 18446744073709551616), .int .u64 (wlo (x * y))]) ∧ w = w' := by
  obtain ⟨x, rfl⟩ := Int.eq_ofNat_of_zero_le hx.1
  obtain ⟨y, rfl⟩ := Int.eq_ofNat_of_zero_le hy.1
  refine (bits_Mul64 x y (by omega) (by omega) w).mono ?_
  rintro e w' ⟨rfl, rfl⟩
  refine ⟨?_, rfl⟩
  unfold wlo
  congr 1

/-- The number with the other sign, as the code makes it. -/
theorem wide_turn (p : Int) (hp : W128 (-p)) (w : World) :
    Calls Tryd.prog 99 #[.agg #[.int .i64 0, .int .u64 0], .agg #[.int .i64 (whi p), .int .u64 (wlo p)]] w fun e w' => e = .returned (.agg #[.int .i64 (whi (-p)), .int .u64 (wlo (-p))]) ∧ Below w.heap.size w w' := by
  have h := wide_less 0 p w
  rw [Int.zero_sub, wrapW_of hp, whi0, wlo0] at h
  exact h

set_option maxHeartbeats 1000000 in
theorem wide_Mul (x y : Int) (hx : I64 x) (hy : I64 y) (w : World) (hg : GN w) :
    Calls Tryd.prog 72 #[.int .i64 x, .int .i64 y] w fun e w' => e = .returned (.agg #[.int .i64 (whi (x * y)), .int .u64 (wlo (x * y))]) ∧ Below w.heap.size w w' := by
  have hlt := World.block_lt_of_cell? w _ hg.1
  obtain ⟨hlo, hlo', hlol⟩ := low_ne hlt
  obtain ⟨g0, g1⟩ := hg
  have sx := size_le hx
  have sy := size_le hy
  have pb := prod_bd hx hy
  cases d1 : decide (x < 0)
  all_goals cases d2 : decide (y < 0)
  all_goals first
    | (have E := Lib.hid (prod_same (x := x) (y := y) (by rw [d1, d2]; rfl))
       go_enter Tryd.func72, Tryd.ntmps72
       go_wp2_with (first | (go_at_call 98; refine (wide_size _ (by first | exact hx | exact hy) _).mono ?_; rintro e w' ⟨rfl, rfl⟩) | (go_at_call 88; refine (mul64 _ _ sx sy _).mono ?_; rintro e w' ⟨rfl, rfl⟩))
       refine bodyPost_ret (v := .agg #[.int .i64 (whi (x * y)), .int .u64 (wlo (x * y))]) (by simp (maxDischargeDepth := 9) [results, Tryd.results72, go_sem, *]; rw [E.out]; exact ⟨rfl, rfl⟩) rfl ⟨rfl, (by repeat (first | exact Below.refl _ _ | assumption | refine bl_alloc ?_ _ | refine bl_drewN ?_ _ | refine bl_drew ?_ | refine bl_set ?_ (by first | (simp; done) | (simp; omega) | (dsimp only; omega)) _ | refine bl_then ?_ (by assumption)))⟩)
    | (have E0 := prod_turn (x := x) (y := y) (by rw [d1, d2]; rfl)
       have HP : W128 (-((x.natAbs : Int) * y.natAbs)) := by have := prod_W128 hx hy; rw [← E0, Int.zero_sub] at this; exact this
       rw [Int.zero_sub] at E0
       have E := Lib.hid E0; clear E0
       go_enter Tryd.func72, Tryd.ntmps72
       go_wp2_with (first | (go_at_call 98; refine (wide_size _ (by first | exact hx | exact hy) _).mono ?_; rintro e w' ⟨rfl, rfl⟩) | (go_at_call 88; refine (mul64 _ _ sx sy _).mono ?_; rintro e w' ⟨rfl, rfl⟩) | (go_at_call 99; refine (wide_turn (x.natAbs * y.natAbs) HP _).mono ?_; rintro e w1 ⟨rfl, hb1⟩; obtain ⟨hc1, hf1⟩ := bcell hb1; have hz1_0 : w.heap.size < w1.heap.size := Nat.lt_of_lt_of_le (by first | (simp; done) | (simp; omega) | (simp [go_sem]; done) | (simp [go_sem]; omega) | omega) hb1.size; have hz1_1 : w.heap.size + 1 < w1.heap.size := Nat.lt_of_lt_of_le (by first | (simp; done) | (simp; omega) | (simp [go_sem]; done) | (simp [go_sem]; omega) | omega) hb1.size))
       refine bodyPost_ret (v := .agg #[.int .i64 (whi (x * y)), .int .u64 (wlo (x * y))]) (by simp only [results, Tryd.results72]; go_simp; rw [E.out]; exact ⟨rfl, rfl⟩) rfl ⟨rfl, (by repeat (first | exact Below.refl _ _ | assumption | refine bl_alloc ?_ _ | refine bl_drewN ?_ _ | refine bl_drew ?_ | refine bl_set ?_ (by first | (simp; done) | (simp; omega) | (dsimp only; omega)) _ | refine bl_then ?_ (by assumption)))⟩)

end Go.Proofs.YtlinfennhfphiaaDoor
