/- Walks of the layer 'wide', second part: what reads the package's 'none'. -/
/- Walks of the layer 'wide', third part: products; a wide number made a number of 64 bits; how two stand. -/
/- Walks of the layer 'wide', fourth part. -/
/- Walks of the layer 'wide', fifth part: products with a power of 2, and quotients by one. -/
/- Walks of the layer 'wide', sixth part: quotients by a power of 2. -/
import Derived.Lib.Mul64
import Derived.Laws.Bits64b
import Derived.Deep.RegionHeld3
import Derived.Deep.QuietTactic
import Derived.BigQuiet
import Derived.IntWalk
import Derived.Test.YtfbhcaocfajjpaaDoorQWb
import Derived.Test.YtfbhcaocfajjpaaDoorQEd
import Derived.Test.YtfbhcaocfajjpaaDoorQWp
namespace Go.Proofs.YtfbhcaocfajjpaaDoor
open Go.RowKit
set_option linter.unusedSimpArgs false
set_option linter.unusedVariables false
attribute [local go_sem] nlt2 nlt3 nlt4 nlt5 nlt6 nlt7 nlt8 nlt9 nlt10 nlt11 nlt12

/-- A global's number, less what a simp takes off both sides, is not the number of a later block. -/
theorem low_ne {g n : Nat} (h : g < n) : (∀ k, k ≤ g → ¬ (k = n)) ∧ (∀ k, k ≤ g → ¬ (n = k)) ∧ (∀ k, k ≤ g → k < n) := ⟨fun k hk e => by omega, fun k hk e => by omega, fun k hk => by omega⟩
/-- The package-level variables 'none' and 'least' hold what their initialisers lay. -/
def GN (w : World) : Prop := w.cell? ⟨1, 0, none⟩ = some (.int .i64 0) ∧ w.cell? ⟨1, 1, none⟩ = some (.int .u64 0)
theorem GN.below {w w' : World} (h : GN w) (hb : Below w.heap.size w w') : GN w' := by
  have hlt := World.block_lt_of_cell? w _ h.1
  exact ⟨((bcell hb).1 _ _ hlt).trans h.1, ((bcell hb).1 _ _ hlt).trans h.2⟩

set_option maxRecDepth 1000000 in
set_option maxHeartbeats 8000000 in
theorem wide_Add_plan (a b : Int) (w : World) (R : Ending → World → Prop) (hG : St w w [] []) (hE : Ex w [(1, [.int .i64 0, .int .u64 0])])
    (h : ∀ r1 : Nat, ∀ r2 : Nat, ∀ r3 : Nat, r1 = r1 ∧ r2 = r2 ∧ CallV Tryd.prog w [(r1, [.int .i64 (whi a), .int .u64 (wlo a)]), (r2, [.int .i64 (whi b), .int .u64 (wlo b)]), (r3, [.int .i64 0, .int .u64 0])] [] 97 #[.agg #[.int .i64 (whi a), .int .u64 (wlo a)], .agg #[.int .i64 (whi b), .int .u64 (wlo b)]] (.agg #[.int .i64 (whi (wrapW (a + b))), .int .u64 (wlo (wrapW (a + b)))]) ∧ (∀ r4 : Nat, (r4 = r4 ∧ (r4 = r4 ∧ (True))) ∧ r1 = r1 ∧ r2 = r2 ∧ ((((decide ((whi a) < 0)) == (decide ((whi b) < 0))) = true → r4 = r4 ∧ r1 = r1 ∧ (((!((decide ((whi (wrapW (a + b))) < 0)) == (decide ((whi a) < 0)))) = true → 1 = 1 ∧ (r3 = r3 ∧ (r3 = r3 ∧ (True))) ∧ (r3 = r3 ∧ (True)) ∧ (LeafV R w [(r1, [.int .i64 (whi a), .int .u64 (wlo a)]), (r2, [.int .i64 (whi b), .int .u64 (wlo b)]), (r3, [.int .i64 0, .int .u64 0]), (r4, [.int .i64 (whi (wrapW (a + b))), .int .u64 (wlo (wrapW (a + b)))])] [] (.tuple #[.agg #[.int .i64 0, .int .u64 0], .int .i64 3]))) ∧ ((!((decide ((whi (wrapW (a + b))) < 0)) == (decide ((whi a) < 0)))) = false → r4 = r4 ∧ (r3 = r3 ∧ (r3 = r3 ∧ (True))) ∧ (r3 = r3 ∧ (True)) ∧ (LeafV R w [(r1, [.int .i64 (whi a), .int .u64 (wlo a)]), (r2, [.int .i64 (whi b), .int .u64 (wlo b)]), (r3, [.int .i64 (whi (wrapW (a + b))), .int .u64 (wlo (wrapW (a + b)))]), (r4, [.int .i64 (whi (wrapW (a + b))), .int .u64 (wlo (wrapW (a + b)))])] [] (.tuple #[.agg #[.int .i64 (whi (wrapW (a + b))), .int .u64 (wlo (wrapW (a + b)))], .int .i64 0]))))) ∧ (((decide ((whi a) < 0)) == (decide ((whi b) < 0))) = false → r4 = r4 ∧ (r3 = r3 ∧ (r3 = r3 ∧ (True))) ∧ (r3 = r3 ∧ (True)) ∧ (LeafV R w [(r1, [.int .i64 (whi a), .int .u64 (wlo a)]), (r2, [.int .i64 (whi b), .int .u64 (wlo b)]), (r3, [.int .i64 (whi (wrapW (a + b))), .int .u64 (wlo (wrapW (a + b)))]), (r4, [.int .i64 (whi (wrapW (a + b))), .int .u64 (wlo (wrapW (a + b)))])] [] (.tuple #[.agg #[.int .i64 (whi (wrapW (a + b))), .int .u64 (wlo (wrapW (a + b)))], .int .i64 0])))))) : Calls Tryd.prog 53 #[.agg #[.int .i64 (whi a), .int .u64 (wlo a)], .agg #[.int .i64 (whi b), .int .u64 (wlo b)]] w R :=
  calls_of_plan (f := 53) (es := [(1, [.int .i64 0, .int .u64 0])]) (c := Tryd.f53.body.getD .skip) (tmps := #[.agg #[.int .i64 (whi a), .int .u64 (wlo a)], .agg #[.int .i64 (whi b), .int .u64 (wlo b)], undef, undef, undef, undef, undef, undef, undef, undef, undef, undef, undef, undef, undef, undef, undef, undef, undef, undef, undef, undef, undef, undef, undef, undef, undef, undef])
    (.s [.c, .c] (.new (fun r1 => .new (fun r2 => .new (fun r3 => .s [.v, .c, .c, .c, .own 0, .own 1, .call (.agg #[.int .i64 (whi (wrapW (a + b))), .int .u64 (wlo (wrapW (a + b)))])] (.new (fun r4 => .s [.put 3, .c, .c, .c, .c, .v, .own 0, .v, .v, .own 1, .v, .v, .v] (.split 17 (.s [.v, .own 3, .v, .v, .own 0, .v, .v, .v, .c] (.split 25 (.s [.c, .c, .c, .ext 0, .put 2, .v, .c] (.ret [2])) (.s [.c, .c, .c, .c, .own 3, .put 2, .v, .c] (.ret [2])))) (.s [.u, .u, .u, .u, .u, .u, .u, .v, .c, .c, .c, .c, .c, .own 3, .put 2, .v, .c] (.ret [2]))))))))))
    (by kernel_rfl) hG hE Tryd.func53 (by kernel_rfl) (by kernel_rfl) (Eq.mpr (by kernel_rfl) h)
set_option maxRecDepth 1000000 in
set_option maxHeartbeats 8000000 in
theorem wide_Add (a b : Int) (ha : W128 a) (hb : W128 b) (w : World) (hg : GN w) : Calls Tryd.prog 53 #[.agg #[.int .i64 (whi a), .int .u64 (wlo a)], .agg #[.int .i64 (whi b), .int .u64 (wlo b)]] w (fun e w' => e = .returned (.tuple #[.agg #[.int .i64 (whi (fitW (a + b))), .int .u64 (wlo (fitW (a + b)))], .int .i64 (errW (a + b))]) ∧ Below w.heap.size w w') := by
  refine wide_Add_plan a b w _ (St.refl w) (by exact Ex.cons (exOf (by exact ⟨hg.1, hg.2, trivial⟩)) (Ex.nil)) ?_
  intro r1
  intro r2
  intro r3
  refine ⟨rfl, rfl, (CallV.be fun W hS => wide_plus a b W), ?_⟩
  intro r4
  refine ⟨⟨rfl, rfl, trivial⟩, rfl, rfl, ?_⟩
  refine ⟨?_, ?_⟩
  · intro h5
    have h5p : (decide ((whi a) < 0)) = (decide ((whi b) < 0)) := by simpa using h5
    refine ⟨rfl, rfl, ?_⟩
    refine ⟨?_, ?_⟩
    · intro h60
      have h6 : ((decide ((whi (wrapW (a + b))) < 0)) == (decide ((whi a) < 0))) = false := by simpa using h60
      have h6p : ¬ ((decide ((whi (wrapW (a + b))) < 0)) = (decide ((whi a) < 0))) := by simpa using h6
      refine ⟨rfl, ⟨rfl, rfl, trivial⟩, ⟨rfl, trivial⟩, ?_⟩
      have F := add_case' ha hb (by simp only [h5, h6, bne, Bool.false_and, Bool.and_false, Bool.not_true, Bool.not_false, Bool.and_self, Bool.true_and, Bool.and_true, Bool.or_self, Bool.or_true, Bool.or_false, Bool.true_or, Bool.false_or])
      exact fun W hS => ⟨by rw [F.1, F.2]; rfl, hS.bl⟩
    · intro h70
      have h7 : ((decide ((whi (wrapW (a + b))) < 0)) == (decide ((whi a) < 0))) = true := by simpa using h70
      have h7p : (decide ((whi (wrapW (a + b))) < 0)) = (decide ((whi a) < 0)) := by simpa using h7
      refine ⟨rfl, ⟨rfl, rfl, trivial⟩, ⟨rfl, trivial⟩, ?_⟩
      have F := add_case ha hb (by simp only [h5, h7, bne, Bool.false_and, Bool.and_false, Bool.not_true, Bool.not_false, Bool.and_self, Bool.true_and, Bool.and_true, Bool.or_self, Bool.or_true, Bool.or_false, Bool.true_or, Bool.false_or])
      exact fun W hS => ⟨by rw [F.1, F.2], hS.bl⟩
  · intro h8
    have h8p : ¬ ((decide ((whi a) < 0)) = (decide ((whi b) < 0))) := by simpa using h8
    refine ⟨rfl, ⟨rfl, rfl, trivial⟩, ⟨rfl, trivial⟩, ?_⟩
    have F := add_case ha hb (by simp only [h8, bne, Bool.false_and, Bool.and_false, Bool.not_true, Bool.not_false, Bool.and_self, Bool.true_and, Bool.and_true, Bool.or_self, Bool.or_true, Bool.or_false, Bool.true_or, Bool.false_or])
    exact fun W hS => ⟨by rw [F.1, F.2], hS.bl⟩

end Go.Proofs.YtfbhcaocfajjpaaDoor

namespace Go.Proofs.YtfbhcaocfajjpaaDoor
open Go.RowKit
attribute [local go_sem] nlt2 nlt3 nlt4 nlt5 nlt6 nlt7 nlt8 nlt9 nlt10 nlt11 nlt12

namespace M64
theorem maskN (a : Nat) (ha : a < 18446744073709551616) : bits .and .u64 (a : Int) 4294967295 = ((a % 4294967296 : Nat) : Int) := by
  have h := bits_and_u64_nat a 4294967295 ha (by omega)
  have e : a &&& 4294967295 = a % 4294967296 := Nat.and_two_pow_sub_one_eq_mod a 32
  rw [e] at h
  exact h
theorem divN (a : Nat) : (a : Int) / 4294967296 = ((a / 4294967296 : Nat) : Int) := by omega
theorem mulN (a b : Nat) : (a : Int) * (b : Int) = ((a * b : Nat) : Int) := (Int.natCast_mul a b).symm
theorem addN (a b : Nat) : (a : Int) + (b : Int) = ((a + b : Nat) : Int) := (Int.natCast_add a b).symm
theorem wrapN (a : Nat) (ha : a < 18446744073709551616) : IntKind.u64.wrap (a : Int) = (a : Int) := by rw [IntKind.wrap_u64]; omega
theorem wrapM (a : Nat) : IntKind.u64.wrap (a : Int) = ((a % 18446744073709551616 : Nat) : Int) := by rw [IntKind.wrap_u64]; omega
end M64

set_option maxHeartbeats 1000000 in
theorem bits_Mul64 (x y : Nat) (hx : x < 18446744073709551616) (hy : y < 18446744073709551616) (w : World) :
    Calls Tryd.prog 90 #[.int .u64 x, .int .u64 y] w fun e w' => e = .returned (.tuple #[.int .u64 ((x * y / 18446744073709551616 : Nat) : Int), .int .u64 ((x * y % 18446744073709551616 : Nat) : Int)]) ∧ w = w' := by
  obtain ⟨bd, bt, bw, hhi⟩ := Lib.mul64_hi x y hx hy
  have ba := Lib.half_mul_le (a := x / 4294967296) (b := y / 4294967296) (by omega) (by omega)
  have bb := Lib.half_mul_le (a := x / 4294967296) (b := y % 4294967296) (by omega) (by omega)
  have bc := Lib.half_mul_le (a := x % 4294967296) (b := y / 4294967296) (by omega) (by omega)
  have ba' : x / 4294967296 * (y / 4294967296) < 18446744073709551616 := by omega
  have bb' : x / 4294967296 * (y % 4294967296) < 18446744073709551616 := by omega
  have bc' : x % 4294967296 * (y / 4294967296) < 18446744073709551616 := by omega
  have bh1 : x / 4294967296 * (y / 4294967296) + (x / 4294967296 * (y % 4294967296) + x % 4294967296 * (y % 4294967296) / 4294967296) / 4294967296 < 18446744073709551616 := by omega
  have bh : x / 4294967296 * (y / 4294967296) + (x / 4294967296 * (y % 4294967296) + x % 4294967296 * (y % 4294967296) / 4294967296) / 4294967296 + ((x / 4294967296 * (y % 4294967296) + x % 4294967296 * (y % 4294967296) / 4294967296) % 4294967296 + x % 4294967296 * (y / 4294967296)) / 4294967296 < 18446744073709551616 := by omega
  go_enter Tryd.func90, Tryd.ntmps90
  go_wp2
  simp only [M64.maskN x hx, M64.maskN y hy, M64.divN, M64.mulN, M64.addN, M64.wrapN _ bd, M64.wrapN _ bb', M64.wrapN _ bt, M64.maskN _ bt, M64.wrapN _ bc', M64.wrapN _ bw, M64.wrapN _ ba', M64.wrapN _ bh1, M64.wrapN _ bh, M64.wrapM (x * y)]
  rw [hhi]
  go_ret2
  exact ⟨rfl, rfl⟩

theorem mul64 (x y : Int) (hx : 0 ≤ x ∧ x ≤ 9223372036854775808) (hy : 0 ≤ y ∧ y ≤ 9223372036854775808) (w : World) :
    Calls Tryd.prog 90 #[.int .u64 x, .int .u64 y] w fun e w' => e = .returned (.tuple #[.int .u64 (x * y / 18446744073709551616), .int .u64 (wlo (x * y))]) ∧ w = w' := by
  obtain ⟨x, rfl⟩ := Int.eq_ofNat_of_zero_le hx.1
  obtain ⟨y, rfl⟩ := Int.eq_ofNat_of_zero_le hy.1
  refine (bits_Mul64 x y (by omega) (by omega) w).mono ?_
  rintro e w' ⟨rfl, rfl⟩
  refine ⟨?_, rfl⟩
  unfold wlo
  congr 1

/-- The number with the other sign, as the code makes it. -/
theorem wide_turn (p : Int) (hp : W128 (-p)) (w : World) :
    Calls Tryd.prog 127 #[.agg #[.int .i64 0, .int .u64 0], .agg #[.int .i64 (whi p), .int .u64 (wlo p)]] w fun e w' => e = .returned (.agg #[.int .i64 (whi (-p)), .int .u64 (wlo (-p))]) ∧ Below w.heap.size w w' := by
  have h := wide_less 0 p w
  rw [Int.zero_sub, wrapW_of hp, whi0, wlo0] at h
  exact h

set_option maxHeartbeats 1000000 in
theorem wide_Mul (x y : Int) (hx : I64 x) (hy : I64 y) (w : World) (hg : GN w) :
    Calls Tryd.prog 101 #[.int .i64 x, .int .i64 y] w fun e w' => e = .returned (.agg #[.int .i64 (whi (x * y)), .int .u64 (wlo (x * y))]) ∧ Below w.heap.size w w' := by
  have hlt := World.block_lt_of_cell? w _ hg.1
  obtain ⟨hlo, hlo', hlol⟩ := low_ne hlt
  obtain ⟨g0, g1⟩ := hg
  have sx := size_le hx
  have sy := size_le hy
  have pb := prod_bd hx hy
  cases d1 : decide (x < 0)
  all_goals cases d2 : decide (y < 0)
  all_goals first
    | (have E := Lib.hid (prod_same (x := x) (y := y) (by rw [d1, d2]; rfl))
       go_enter Tryd.func101, Tryd.ntmps101
       go_wp2_with (first | (go_at_call 126; refine (wide_size _ (by first | exact hx | exact hy) _).mono ?_; rintro e w' ⟨rfl, rfl⟩) | (go_at_call 90; refine (mul64 _ _ sx sy _).mono ?_; rintro e w' ⟨rfl, rfl⟩))
       refine bodyPost_ret (v := .agg #[.int .i64 (whi (x * y)), .int .u64 (wlo (x * y))]) (by simp (maxDischargeDepth := 9) [results, Tryd.results101, go_sem, *]; rw [E.out]; exact ⟨rfl, rfl⟩) rfl ⟨rfl, (by repeat (first | exact Below.refl _ _ | assumption | refine bl_alloc ?_ _ | refine bl_drewN ?_ _ | refine bl_drew ?_ | refine bl_set ?_ (by first | (simp; done) | (simp; omega) | (dsimp only; omega)) _ | refine bl_then ?_ (by assumption)))⟩)
    | (have E0 := prod_turn (x := x) (y := y) (by rw [d1, d2]; rfl)
       have HP : W128 (-((x.natAbs : Int) * y.natAbs)) := by have := prod_W128 hx hy; rw [← E0, Int.zero_sub] at this; exact this
       rw [Int.zero_sub] at E0
       have E := Lib.hid E0; clear E0
       go_enter Tryd.func101, Tryd.ntmps101
       go_wp2_with (first | (go_at_call 126; refine (wide_size _ (by first | exact hx | exact hy) _).mono ?_; rintro e w' ⟨rfl, rfl⟩) | (go_at_call 90; refine (mul64 _ _ sx sy _).mono ?_; rintro e w' ⟨rfl, rfl⟩) | (go_at_call 127; refine (wide_turn (x.natAbs * y.natAbs) HP _).mono ?_; rintro e w1 ⟨rfl, hb1⟩; obtain ⟨hc1, hf1⟩ := bcell hb1; have hz1_0 : w.heap.size < w1.heap.size := Nat.lt_of_lt_of_le (by first | (simp; done) | (simp; omega) | (simp [go_sem]; done) | (simp [go_sem]; omega) | omega) hb1.size; have hz1_1 : w.heap.size + 1 < w1.heap.size := Nat.lt_of_lt_of_le (by first | (simp; done) | (simp; omega) | (simp [go_sem]; done) | (simp [go_sem]; omega) | omega) hb1.size))
       refine bodyPost_ret (v := .agg #[.int .i64 (whi (x * y)), .int .u64 (wlo (x * y))]) (by simp only [results, Tryd.results101]; go_simp; rw [E.out]; exact ⟨rfl, rfl⟩) rfl ⟨rfl, (by repeat (first | exact Below.refl _ _ | assumption | refine bl_alloc ?_ _ | refine bl_drewN ?_ _ | refine bl_drew ?_ | refine bl_set ?_ (by first | (simp; done) | (simp; omega) | (dsimp only; omega)) _ | refine bl_then ?_ (by assumption)))⟩)

end Go.Proofs.YtfbhcaocfajjpaaDoor

namespace Go.Proofs.YtfbhcaocfajjpaaDoor
open Go.RowKit
attribute [local go_sem] nlt2 nlt3 nlt4 nlt5 nlt6 nlt7 nlt8 nlt9 nlt10 nlt11 nlt12


set_option maxRecDepth 100000 in
set_option maxHeartbeats 1000000 in
theorem wide_Int (a : Int) (w : World) :
    Calls Tryd.prog 45 #[.agg #[.int .i64 (whi a), .int .u64 (wlo a)]] w fun e w' => e = .returned (.tuple #[.int .i64 (fitI a), .int .i64 (errI a)]) ∧ Below w.heap.size w w' := by
  by_cases h : I64 a
  · simp only [fitI, errI, if_pos h]
    have e1 : wrap64 (wlo a) = a := int_fits h
    have e2 : IntKind.i64.wrap (wlo a) = a := (IntWalk.i64_left _).trans e1
    go_enter Tryd.func45, Tryd.ntmps45
    go_wp2
    go_region_held3 (fun w' => w'.cell? ⟨w.heap.size, 0, none⟩ = some (.int .i64 (whi a)) ∧ w'.cell? ⟨w.heap.size, 1, none⟩ = some (.int .u64 (wlo a))) (first | (simp [go_sem]; done) | (simp [go_sem, *]; done))
      (first | (go_at_call 98; refine (wide_Of _ h _).mono ?_; rintro e w1 ⟨rfl, hb1⟩; obtain ⟨hc1, hf1⟩ := bcell hb1; have hz1_0 : w.heap.size < w1.heap.size := Nat.lt_of_lt_of_le (by first | (simp; done) | (simp; omega)) hb1.size))
    go_wp2
    go_ret2
    exact ⟨rfl, (by repeat (first | exact Below.refl _ _ | assumption | refine bl_alloc ?_ _ | refine bl_drewN ?_ _ | refine bl_drew ?_ | refine bl_set ?_ (by first | (simp; done) | (simp; omega) | (dsimp only; omega)) _ | refine bl_then ?_ (by assumption)))⟩
  · simp only [fitI, errI, if_neg h]
    have n1 := beq_eq_false_iff_ne.2 (int_beyond h)
    have hm := wrap64_I64 (wlo a)
    obtain ⟨m, em⟩ : ∃ m, m = wrap64 (wlo a) := ⟨_, rfl⟩
    rw [← em] at n1 hm
    have e1 : wrap64 (wlo a) = m := em.symm
    have e2 : IntKind.i64.wrap (wlo a) = m := (IntWalk.i64_left _).trans e1
    clear em
    go_enter Tryd.func45, Tryd.ntmps45
    go_wp2
    go_region_held3 (fun w' => w'.cell? ⟨w.heap.size, 0, none⟩ = some (.int .i64 (whi a)) ∧ w'.cell? ⟨w.heap.size, 1, none⟩ = some (.int .u64 (wlo a))) (first | (simp [go_sem]; done) | (simp [go_sem, *]; done))
      (first | (go_at_call 98; refine (wide_Of _ hm _).mono ?_; rintro e w1 ⟨rfl, hb1⟩; obtain ⟨hc1, hf1⟩ := bcell hb1; have hz1_0 : w.heap.size < w1.heap.size := Nat.lt_of_lt_of_le (by first | (simp; done) | (simp; omega)) hb1.size))
    go_wp2
    go_ret2
    exact ⟨rfl, (by repeat (first | exact Below.refl _ _ | assumption | refine bl_alloc ?_ _ | refine bl_drewN ?_ _ | refine bl_drew ?_ | refine bl_set ?_ (by first | (simp; done) | (simp; omega) | (dsimp only; omega)) _ | refine bl_then ?_ (by assumption)))⟩

end Go.Proofs.YtfbhcaocfajjpaaDoor

namespace Go.Proofs.YtfbhcaocfajjpaaDoor
open Go.RowKit
attribute [local go_sem] nlt2 nlt3 nlt4 nlt5 nlt6 nlt7 nlt8 nlt9 nlt10 nlt11 nlt12

/-- A block of two words, a wide number's. -/
def Blk (w : World) (b : Nat) (h l : Int) : Prop :=
  w.cell? ⟨b, 0, none⟩ = some (.int .i64 h) ∧ w.cell? ⟨b, 1, none⟩ = some (.int .u64 l) ∧ w.frozen? ⟨b, 0, none⟩ = false ∧ w.frozen? ⟨b, 1, none⟩ = false

theorem Blk.below {w w1 : World} {b : Nat} {h l : Int} (hb : Below w.heap.size w w1) (hlt : b < w.heap.size) (k : Blk w b h l) : Blk w1 b h l :=
  ⟨((bcell hb).1 _ _ hlt).trans k.1, ((bcell hb).1 _ _ hlt).trans k.2.1, ((bcell hb).2 _ _ hlt).trans k.2.2.1, ((bcell hb).2 _ _ hlt).trans k.2.2.2⟩

end Go.Proofs.YtfbhcaocfajjpaaDoor

namespace Go.Proofs.YtfbhcaocfajjpaaDoor
open Go.RowKit
set_option linter.unusedSimpArgs false
set_option linter.unusedVariables false
set_option maxRecDepth 1000000 in
theorem wide_down_plan (a : Int) (w : World) (R : Ending → World → Prop) (hG : St w w [] []) (hE : Ex w [])
    (h : ∀ r1 : Nat, ∀ r2 : Nat, r1 = r1 ∧ Value.int .i64 (Int.fdiv (whi a) (2 ^ 1)) = .int .i64 ((whi a) / 2) ∧ r1 = r1 ∧ Value.int .u64 (Int.fdiv (wlo a) (2 ^ 1)) = .int .u64 ((wlo a) / 2) ∧ r1 = r1 ∧ Value.int .u64 (bits .or .u64 ((wlo a) / 2) (IntKind.u64.wrap ((IntKind.u64.wrap ((whi a))) * 2 ^ 63))) = .int .u64 (wlo (a / 2)) ∧ r1 = r1 ∧ Value.int .u64 (bits .and .u64 (wlo a) 1) = .int .u64 (a % 2) ∧ (r2 = r2 ∧ (r2 = r2 ∧ (True))) ∧ (r2 = r2 ∧ (True)) ∧ (LeafV R w [(r1, [.int .i64 (whi a), .int .u64 (wlo a)]), (r2, [.int .i64 ((whi a) / 2), .int .u64 (wlo (a / 2))])] [] (.tuple #[.agg #[.int .i64 ((whi a) / 2), .int .u64 (wlo (a / 2))], .int .u64 (a % 2)]))) : Calls Tryd.prog 96 #[.agg #[.int .i64 (whi a), .int .u64 (wlo a)]] w R :=
  calls_of_plan (f := 96) (es := []) (c := Tryd.f96.body.getD .skip) (tmps := #[.agg #[.int .i64 (whi a), .int .u64 (wlo a)], undef, undef, undef, undef, undef, undef, undef, undef, undef, undef, undef, undef, undef, undef, undef, undef, undef, undef])
    (.s [.c, .c] (.new (fun r1 => .new (fun r2 => .s [.v, .c, .c, .d [1], .at 0 false, .v, .at 1 false, .own 0, .at 2 false, .v, .setv 6 (.int .i64 ((whi a) / 2)), .at 3 false, .v, .at 4 false, .own 0, .at 5 false, .v, .setv 9 (.int .u64 ((wlo a) / 2)), .at 6 false, .v, .at 7 false, .own 0, .at 8 false, .v, .at 9 false, .v, .at 10 false, .v, .setv 14 (.int .u64 (wlo (a / 2))), .at 11 false, .v, .at 12 false, .v, .at 13 false, .own 0, .at 14 false, .v, .setv 18 (.int .u64 (a % 2)), .at 15 true, .put 1, .at 16 false, .v, .c] (.ret [1])))))
    (by kernel_rfl) hG hE Tryd.func96 (by kernel_rfl) (by kernel_rfl) (Eq.mpr (by kernel_rfl) h)
set_option maxRecDepth 1000000 in
set_option maxHeartbeats 8000000 in
theorem wide_down (a : Int)  (w : World)  : Calls Tryd.prog 96 #[.agg #[.int .i64 (whi a), .int .u64 (wlo a)]] w (fun e w' => e = .returned (.tuple #[.agg #[.int .i64 (whi (a / 2)), .int .u64 (wlo (a / 2))], .int .u64 (a % 2)]) ∧ Below w.heap.size w w') := by
  refine wide_down_plan a w _ (St.refl w) Ex.nil ?_
  intro r1
  intro r2
  refine ⟨rfl, congrArg (Value.int .i64) (shr_eq _ 1), rfl, congrArg (Value.int .u64) (shr_eq _ 1), rfl, congrArg (Value.int .u64) (by exact down_lo a), rfl, congrArg (Value.int .u64) (down_rest a), ⟨rfl, rfl, trivial⟩, ⟨rfl, trivial⟩, ?_⟩
  exact fun W hS => ⟨by rw [← down_hi], hS.bl⟩

theorem lo_one (z : Int) : bits .and .u64 (wlo z) 1 = z % 2 := (and_one _ (wlo_u64 _).1 (wlo_u64 _).2).trans (by unfold wlo; omega)
theorem half_up {a : Int} {k : Nat} (h1 : lastS a k = 1) (h : restS a k = 1 ∨ dn a k % 2 = 1) : evP a (pow2 k) = dn a k + 1 := by rw [half_even, if_pos ⟨h1, h⟩]
theorem half_no1 {a : Int} {k : Nat} (h : ¬ lastS a k = 1) : evP a (pow2 k) = dn a k := by rw [half_even, if_neg (fun q => h q.1)]
theorem half_no2 {a : Int} {k : Nat} (h : ¬ restS a k = 1) (h2 : ¬ dn a k % 2 = 1) : evP a (pow2 k) = dn a k := by rw [half_even, if_neg (fun q => q.2.elim h h2)]
set_option maxRecDepth 1000000 in
theorem wide_Half_loop_plan (a : Int) (n : Nat) (w : World) (R : Ending → World → Prop) (hG : St w w [] []) (hE : Ex w [])
    (h : ∀ r1 : Nat, ∀ r2 : Nat, Value.bool (decide (((n : Nat) : Int) < 0)) = .bool false ∧ Value.bool (decide (((n : Nat) : Int) > 127)) = .bool false ∧ (.int .i64 (whi a) : Value) = .int .i64 (whi (dn a 0)) ∧ (.int .u64 (wlo a) : Value) = .int .u64 (wlo (dn a 0)) ∧ ((∃ (k' : Nat) (ξ' : Nat → Int) (u' : Nat → Value) (α' : Nat → Option Addr × Nat), (k' ≤ n) ∧ (#[.agg #[.int .i64 (whi a), .int .u64 (wlo a)], .int .i64 ((n : Nat) : Int), .pointer (some ⟨r1, 0, none⟩), undef, .pointer (some ⟨r2, 0, none⟩), .int .i64 0, .int .u64 0, .int .u64 0, .int .i64 ((n : Nat) : Int), .bool (decide (((n : Nat) : Int) < 0)), .bool false, .int .i64 ((n : Nat) : Int), .bool (decide (((n : Nat) : Int) > 127)), .bool false, undef, .int .i64 ((n : Nat) : Int), .int .i64 0, undef, undef, undef, undef, undef, undef, undef, undef, undef, undef, undef, undef, undef, undef, undef, undef, undef, undef, undef, undef, undef, undef, undef, undef, undef, undef] : Array Value) = #[.agg #[.int .i64 (whi a), .int .u64 (wlo a)], .int .i64 ((n : Nat) : Int), .pointer (some ⟨r1, 0, none⟩), undef, .pointer (some ⟨r2, 0, none⟩), .int .i64 0, .int .u64 (lastS a k'), .int .u64 (restS a k'), .int .i64 ((n : Nat) : Int), .bool (decide (((n : Nat) : Int) < 0)), .bool false, .int .i64 ((n : Nat) : Int), .bool (decide (((n : Nat) : Int) > 127)), .bool false, undef, .int .i64 ((n : Nat) : Int), .int .i64 ((k' : Nat) : Int), (u' 17), (u' 18), (u' 19), (u' 20), (u' 21), (u' 22), (u' 23), (u' 24), (u' 25), (u' 26), undef, undef, undef, undef, undef, undef, undef, undef, undef, undef, undef, undef, undef, undef, undef, undef] ∧ (∃ t : Blks, ([(r1, [.int .i64 (whi (dn a 0)), .int .u64 (wlo (dn a 0))]), (r2, [.int .i64 0, .int .u64 0])] : Blks) = [(r1, [.int .i64 (whi (dn a k')), .int .u64 (wlo (dn a k'))]), (r2, [.int .i64 0, .int .u64 0])] ++ t) ∧ ([] : Bigs) ⊆ []) ∧ (∀ (k3 : Nat) (ξ4 : Nat → Int) (u5 : Nat → Value) (α6 : Nat → Option Addr × Nat), (k3 ≤ n) → (((decide (((k3 : Nat) : Int) < ((n : Nat) : Int))) = true → Value.int .u64 (bits .or .u64 (restS a k3) (lastS a k3)) = .int .u64 (restS a (k3 + 1)) ∧ r1 = r1 ∧ CallV Tryd.prog w [(r1, [.int .i64 (whi (dn a k3)), .int .u64 (wlo (dn a k3))]), (r2, [.int .i64 0, .int .u64 0])] [] 96 #[.agg #[.int .i64 (whi (dn a k3)), .int .u64 (wlo (dn a k3))]] (.tuple #[.agg #[.int .i64 (whi ((dn a k3) / 2)), .int .u64 (wlo ((dn a k3) / 2))], .int .u64 ((dn a k3) % 2)]) ∧ (r1 = r1 ∧ (r1 = r1 ∧ (True))) ∧ Value.int .i64 (IntKind.i64.wrap (((k3 : Nat) : Int) + 1)) = .int .i64 (((k3 + 1) : Nat) : Int) ∧ (.int .u64 ((dn a k3) % 2) : Value) = .int .u64 (lastS a (k3 + 1)) ∧ (.int .i64 (whi ((dn a k3) / 2)) : Value) = .int .i64 (whi (dn a (k3 + 1))) ∧ (.int .u64 (wlo ((dn a k3) / 2)) : Value) = .int .u64 (wlo (dn a (k3 + 1))) ∧ ((walkTodo 27 [false, true] [.code (Tryd.f44.body.getD .skip)]) = (walkTodo 14 [false] [.code (Tryd.f44.body.getD .skip)]) ∧ ∃ (k' : Nat) (ξ' : Nat → Int) (u' : Nat → Value) (α' : Nat → Option Addr × Nat), (k' ≤ n) ∧ (n - k') < (n - k3) ∧ (#[.agg #[.int .i64 (whi a), .int .u64 (wlo a)], .int .i64 ((n : Nat) : Int), .pointer (some ⟨r1, 0, none⟩), undef, .pointer (some ⟨r2, 0, none⟩), .int .i64 0, .int .u64 (lastS a (k3 + 1)), .int .u64 (restS a (k3 + 1)), .int .i64 ((n : Nat) : Int), .bool (decide (((n : Nat) : Int) < 0)), .bool false, .int .i64 ((n : Nat) : Int), .bool (decide (((n : Nat) : Int) > 127)), .bool false, undef, .int .i64 ((n : Nat) : Int), .int .i64 (((k3 + 1) : Nat) : Int), .bool true, .int .u64 (restS a k3), .int .u64 (lastS a k3), .int .u64 (restS a (k3 + 1)), .tuple #[.agg #[.int .i64 (whi ((dn a k3) / 2)), .int .u64 (wlo ((dn a k3) / 2))], .int .u64 ((dn a k3) % 2)], .agg #[.int .i64 (whi (dn a k3)), .int .u64 (wlo (dn a k3))], .tuple #[.agg #[.int .i64 (whi ((dn a k3) / 2)), .int .u64 (wlo ((dn a k3) / 2))], .int .u64 ((dn a k3) % 2)], .agg #[.int .i64 (whi ((dn a k3) / 2)), .int .u64 (wlo ((dn a k3) / 2))], .int .u64 ((dn a k3) % 2), .int .i64 (((k3 + 1) : Nat) : Int), undef, undef, undef, undef, undef, undef, undef, undef, undef, undef, undef, undef, undef, undef, undef, undef] : Array Value) = #[.agg #[.int .i64 (whi a), .int .u64 (wlo a)], .int .i64 ((n : Nat) : Int), .pointer (some ⟨r1, 0, none⟩), undef, .pointer (some ⟨r2, 0, none⟩), .int .i64 0, .int .u64 (lastS a k'), .int .u64 (restS a k'), .int .i64 ((n : Nat) : Int), .bool (decide (((n : Nat) : Int) < 0)), .bool false, .int .i64 ((n : Nat) : Int), .bool (decide (((n : Nat) : Int) > 127)), .bool false, undef, .int .i64 ((n : Nat) : Int), .int .i64 ((k' : Nat) : Int), (u' 17), (u' 18), (u' 19), (u' 20), (u' 21), (u' 22), (u' 23), (u' 24), (u' 25), (u' 26), undef, undef, undef, undef, undef, undef, undef, undef, undef, undef, undef, undef, undef, undef, undef, undef] ∧ (∃ t : Blks, ([(r1, [.int .i64 (whi (dn a (k3 + 1))), .int .u64 (wlo (dn a (k3 + 1)))]), (r2, [.int .i64 0, .int .u64 0])] : Blks) = [(r1, [.int .i64 (whi (dn a k')), .int .u64 (wlo (dn a k'))]), (r2, [.int .i64 0, .int .u64 0])] ++ t) ∧ ([] : Bigs) ⊆ [])) ∧ ((decide (((k3 : Nat) : Int) < ((n : Nat) : Int))) = false → (((lastS a k3) == 1) = true → (((restS a k3) == 1) = true → r1 = r1 ∧ CallV Tryd.prog w [(r1, [.int .i64 (whi (dn a k3)), .int .u64 (wlo (dn a k3))]), (r2, [.int .i64 0, .int .u64 0])] [] 98 #[.int .i64 1] (.agg #[.int .i64 (whi 1), .int .u64 (wlo 1)]) ∧ CallV Tryd.prog w [(r1, [.int .i64 (whi (dn a k3)), .int .u64 (wlo (dn a k3))]), (r2, [.int .i64 0, .int .u64 0])] [] 97 #[.agg #[.int .i64 (whi (dn a k3)), .int .u64 (wlo (dn a k3))], .agg #[.int .i64 (whi 1), .int .u64 (wlo 1)]] (.agg #[.int .i64 (whi (wrapW (dn a k3 + 1))), .int .u64 (wlo (wrapW (dn a k3 + 1)))]) ∧ (r1 = r1 ∧ (r1 = r1 ∧ (True))) ∧ r1 = r1 ∧ (r2 = r2 ∧ (r2 = r2 ∧ (True))) ∧ (r2 = r2 ∧ (True)) ∧ (LeafV R w [(r1, [.int .i64 (whi (wrapW (dn a k3 + 1))), .int .u64 (wlo (wrapW (dn a k3 + 1)))]), (r2, [.int .i64 (whi (wrapW (dn a k3 + 1))), .int .u64 (wlo (wrapW (dn a k3 + 1)))])] [] (.tuple #[.agg #[.int .i64 (whi (wrapW (dn a k3 + 1))), .int .u64 (wlo (wrapW (dn a k3 + 1)))], .int .i64 0]))) ∧ (((restS a k3) == 1) = false → r1 = r1 ∧ Value.int .u64 (bits .and .u64 (wlo (dn a k3)) 1) = .int .u64 (dn a k3 % 2) ∧ ((((dn a k3 % 2) == 1) = true → r1 = r1 ∧ CallV Tryd.prog w [(r1, [.int .i64 (whi (dn a k3)), .int .u64 (wlo (dn a k3))]), (r2, [.int .i64 0, .int .u64 0])] [] 98 #[.int .i64 1] (.agg #[.int .i64 (whi 1), .int .u64 (wlo 1)]) ∧ CallV Tryd.prog w [(r1, [.int .i64 (whi (dn a k3)), .int .u64 (wlo (dn a k3))]), (r2, [.int .i64 0, .int .u64 0])] [] 97 #[.agg #[.int .i64 (whi (dn a k3)), .int .u64 (wlo (dn a k3))], .agg #[.int .i64 (whi 1), .int .u64 (wlo 1)]] (.agg #[.int .i64 (whi (wrapW (dn a k3 + 1))), .int .u64 (wlo (wrapW (dn a k3 + 1)))]) ∧ (r1 = r1 ∧ (r1 = r1 ∧ (True))) ∧ r1 = r1 ∧ (r2 = r2 ∧ (r2 = r2 ∧ (True))) ∧ (r2 = r2 ∧ (True)) ∧ (LeafV R w [(r1, [.int .i64 (whi (wrapW (dn a k3 + 1))), .int .u64 (wlo (wrapW (dn a k3 + 1)))]), (r2, [.int .i64 (whi (wrapW (dn a k3 + 1))), .int .u64 (wlo (wrapW (dn a k3 + 1)))])] [] (.tuple #[.agg #[.int .i64 (whi (wrapW (dn a k3 + 1))), .int .u64 (wlo (wrapW (dn a k3 + 1)))], .int .i64 0]))) ∧ (((dn a k3 % 2) == 1) = false → r1 = r1 ∧ (r2 = r2 ∧ (r2 = r2 ∧ (True))) ∧ (r2 = r2 ∧ (True)) ∧ (LeafV R w [(r1, [.int .i64 (whi (dn a k3)), .int .u64 (wlo (dn a k3))]), (r2, [.int .i64 (whi (dn a k3)), .int .u64 (wlo (dn a k3))])] [] (.tuple #[.agg #[.int .i64 (whi (dn a k3)), .int .u64 (wlo (dn a k3))], .int .i64 0])))))) ∧ (((lastS a k3) == 1) = false → r1 = r1 ∧ (r2 = r2 ∧ (r2 = r2 ∧ (True))) ∧ (r2 = r2 ∧ (True)) ∧ (LeafV R w [(r1, [.int .i64 (whi (dn a k3)), .int .u64 (wlo (dn a k3))]), (r2, [.int .i64 (whi (dn a k3)), .int .u64 (wlo (dn a k3))])] [] (.tuple #[.agg #[.int .i64 (whi (dn a k3)), .int .u64 (wlo (dn a k3))], .int .i64 0])))))))) : Calls Tryd.prog 44 #[.agg #[.int .i64 (whi a), .int .u64 (wlo a)], .int .i64 ((n : Nat) : Int)] w R :=
  calls_of_plan (f := 44) (es := []) (c := Tryd.f44.body.getD .skip) (tmps := #[.agg #[.int .i64 (whi a), .int .u64 (wlo a)], .int .i64 ((n : Nat) : Int), undef, undef, undef, undef, undef, undef, undef, undef, undef, undef, undef, undef, undef, undef, undef, undef, undef, undef, undef, undef, undef, undef, undef, undef, undef, undef, undef, undef, undef, undef, undef, undef, undef, undef, undef, undef, undef, undef, undef, undef, undef])
    (.s [.c, .c] (.new (fun r1 => .new (fun r2 => .s [.v, .c, .c, .c, .c, .v, .v, .v, .setv 10 (.bool false), .v, .v, .v, .c, .setv 13 (.bool false), .c, .c, .c, .c, .v, .v, .c, .c, .c, .c, .v, .v, .c, .c, .c, .setc 0 0 (.int .i64 (whi (dn a 0))), .setc 0 1 (.int .u64 (wlo (dn a 0)))] (.loop (fun k' ξ' => k' ≤ n) (fun k' ξ' => n - k') (fun k' ξ' u' α' => (#[.agg #[.int .i64 (whi a), .int .u64 (wlo a)], .int .i64 ((n : Nat) : Int), .pointer (some ⟨r1, 0, none⟩), undef, .pointer (some ⟨r2, 0, none⟩), .int .i64 0, .int .u64 (lastS a k'), .int .u64 (restS a k'), .int .i64 ((n : Nat) : Int), .bool (decide (((n : Nat) : Int) < 0)), .bool false, .int .i64 ((n : Nat) : Int), .bool (decide (((n : Nat) : Int) > 127)), .bool false, undef, .int .i64 ((n : Nat) : Int), .int .i64 ((k' : Nat) : Int), (u' 17), (u' 18), (u' 19), (u' 20), (u' 21), (u' 22), (u' 23), (u' 24), (u' 25), (u' 26), undef, undef, undef, undef, undef, undef, undef, undef, undef, undef, undef, undef, undef, undef, undef, undef], [(r1, [.int .i64 (whi (dn a k')), .int .u64 (wlo (dn a k'))]), (r2, [.int .i64 0, .int .u64 0])], [])) (fun k3 ξ4 u5 α6 => .s [.c, .c, .v, .c, .c] (.split 17 (.s [.c, .c, .c, .c, .c, .c, .v, .v, .v, .setv 20 (.int .u64 (restS a (k3 + 1))), .v, .c, .c, .own 0, .call (.tuple #[.agg #[.int .i64 (whi ((dn a k3) / 2)), .int .u64 (wlo ((dn a k3) / 2))], .int .u64 ((dn a k3) % 2)]), .v, .v, .v, .put 0, .v, .c, .c, .c, .v, .setv 26 (.int .i64 (((k3 + 1) : Nat) : Int)), .v, .c, .c, .setv 6 (.int .u64 (lastS a (k3 + 1))), .setc 0 0 (.int .i64 (whi (dn a (k3 + 1)))), .setc 0 1 (.int .u64 (wlo (dn a (k3 + 1))))] (.again 0)) (.s [.c, .c, .c, .c, .c, .v, .v, .v] (.split 29 (.s [.v, .v, .v] (.split 32 (.s [.u, .u, .u, .u, .v, .v, .c, .c, .d [], .at 0 false, .own 0, .at 1 true, .call (.agg #[.int .i64 (whi 1), .int .u64 (wlo 1)]), .at 2 true, .call (.agg #[.int .i64 (whi (wrapW (dn a k3 + 1))), .int .u64 (wlo (wrapW (dn a k3 + 1)))]), .at 3 true, .put 0, .c, .c, .c, .own 0, .put 1, .v, .c] (.ret [1])) (.s [.v, .own 0, .v, .setv 35 (.int .u64 (dn a k3 % 2)), .v, .v, .v, .c] (.split 38 (.s [.c, .d [], .at 0 false, .own 0, .at 1 true, .call (.agg #[.int .i64 (whi 1), .int .u64 (wlo 1)]), .at 2 true, .call (.agg #[.int .i64 (whi (wrapW (dn a k3 + 1))), .int .u64 (wlo (wrapW (dn a k3 + 1)))]), .at 3 true, .put 0, .c, .c, .c, .own 0, .put 1, .v, .c] (.ret [1])) (.s [.c, .c, .c, .c, .own 0, .put 1, .v, .c] (.ret [1])))))) (.s [.u, .u, .u, .u, .u, .u, .u, .u, .v, .c, .c, .c, .c, .c, .own 0, .put 1, .v, .c] (.ret [1])))))))))))
    (by kernel_rfl) hG hE Tryd.func44 (by kernel_rfl) (by kernel_rfl) (Eq.mpr (by kernel_rfl) h)
set_option maxRecDepth 1000000 in
set_option maxHeartbeats 8000000 in
theorem wide_Half_loop (a : Int) (n : Nat) (hn : n ≤ 127) (ha : W128 a) (w : World)  : Calls Tryd.prog 44 #[.agg #[.int .i64 (whi a), .int .u64 (wlo a)], .int .i64 ((n : Nat) : Int)] w (fun e w' => e = .returned (.tuple #[.agg #[.int .i64 (whi (evP a (pow2 n))), .int .u64 (wlo (evP a (pow2 n)))], .int .i64 0]) ∧ Below w.heap.size w w') := by
  refine wide_Half_loop_plan a n w _ (St.refl w) Ex.nil ?_
  intro r1
  intro r2
  refine ⟨congrArg Value.bool (decide_eq_false (by omega)), congrArg Value.bool (decide_eq_false (by omega)), (by rw [dn_zero]), (by rw [dn_zero]), ?_⟩
  refine ⟨?_, ?_⟩
  · refine ⟨0, fun _ => 0, fun i => match i with | 17 => undef | 18 => undef | 19 => undef | 20 => undef | 21 => undef | 22 => undef | 23 => undef | 24 => undef | 25 => undef | 26 => undef | _ => undef, fun _ => (none, 0), ?_, by kernel_rfl, ⟨[], by kernel_rfl⟩, by simp⟩
    omega
  · intro k3 ξ4 u5 α6 hI
    refine ⟨?_, ?_⟩
    · intro h7
      have h7p : ((k3 : Nat) : Int) < ((n : Nat) : Int) := by simpa using h7
      refine ⟨congrArg (Value.int .u64) (rest_or a k3), rfl, (CallV.be fun W hS => wide_down (dn a k3) W), ⟨rfl, rfl, trivial⟩, congrArg (Value.int .i64) (by rw [wrapI (by omega)]; rfl), rfl, (by rw [dn_succ]), (by rw [dn_succ]), ?_⟩
      refine ⟨by kernel_rfl, (k3 + 1), ξ4, fun i => match i with | 17 => .bool true | 18 => .int .u64 (restS a k3) | 19 => .int .u64 (lastS a k3) | 20 => .int .u64 (restS a (k3 + 1)) | 21 => .tuple #[.agg #[.int .i64 (whi ((dn a k3) / 2)), .int .u64 (wlo ((dn a k3) / 2))], .int .u64 ((dn a k3) % 2)] | 22 => .agg #[.int .i64 (whi (dn a k3)), .int .u64 (wlo (dn a k3))] | 23 => .tuple #[.agg #[.int .i64 (whi ((dn a k3) / 2)), .int .u64 (wlo ((dn a k3) / 2))], .int .u64 ((dn a k3) % 2)] | 24 => .agg #[.int .i64 (whi ((dn a k3) / 2)), .int .u64 (wlo ((dn a k3) / 2))] | 25 => .int .u64 ((dn a k3) % 2) | 26 => .int .i64 (((k3 + 1) : Nat) : Int) | _ => undef, fun _ => (none, 0), ?_, ?_, by kernel_rfl, ⟨[], by kernel_rfl⟩, by simp⟩
      · omega
      · omega
    · intro h8
      have h8p : ¬ (((k3 : Nat) : Int) < ((n : Nat) : Int)) := by simpa using h8
      refine ⟨?_, ?_⟩
      · intro h9
        have h9p : (lastS a k3) = 1 := by simpa using h9
        refine ⟨?_, ?_⟩
        · intro h10
          have h10p : (restS a k3) = 1 := by simpa using h10
          refine ⟨rfl, (CallV.be fun W hS => wide_Of 1 (by decide) W), (CallV.be fun W hS => wide_plus (dn a k3) 1 W), ⟨rfl, rfl, trivial⟩, rfl, ⟨rfl, rfl, trivial⟩, ⟨rfl, trivial⟩, ?_⟩
          obtain rfl : k3 = n := by omega
          have F := half_up h9p (.inl h10p)
          exact fun W hS => ⟨by rw [F, wrapW_of (dn_inc_W128 ha _ h9p)], hS.bl⟩
        · intro h11
          have h11p : ¬ ((restS a k3) = 1) := by simpa using h11
          refine ⟨rfl, congrArg (Value.int .u64) (lo_one _), ?_⟩
          refine ⟨?_, ?_⟩
          · intro h12
            have h12p : (dn a k3 % 2) = 1 := by simpa using h12
            refine ⟨rfl, (CallV.be fun W hS => wide_Of 1 (by decide) W), (CallV.be fun W hS => wide_plus (dn a k3) 1 W), ⟨rfl, rfl, trivial⟩, rfl, ⟨rfl, rfl, trivial⟩, ⟨rfl, trivial⟩, ?_⟩
            obtain rfl : k3 = n := by omega
            have F := half_up h9p (.inr h12p)
            exact fun W hS => ⟨by rw [F, wrapW_of (dn_inc_W128 ha _ h9p)], hS.bl⟩
          · intro h13
            have h13p : ¬ ((dn a k3 % 2) = 1) := by simpa using h13
            refine ⟨rfl, ⟨rfl, rfl, trivial⟩, ⟨rfl, trivial⟩, ?_⟩
            obtain rfl : k3 = n := by omega
            have F := half_no2 h11p h13p
            exact fun W hS => ⟨by rw [F], hS.bl⟩
      · intro h14
        have h14p : ¬ ((lastS a k3) = 1) := by simpa using h14
        refine ⟨rfl, ⟨rfl, rfl, trivial⟩, ⟨rfl, trivial⟩, ?_⟩
        obtain rfl : k3 = n := by omega
        have F := half_no1 h14p
        exact fun W hS => ⟨by rw [F], hS.bl⟩

end Go.Proofs.YtfbhcaocfajjpaaDoor
