/- Plain words: the whole root of a number from 0 on. No Go in sight. -/
/- Walks of the layer 'root'. -/
/- Walks of the reference of layer 3 (root): halving what is between. -/
/- Walks of the layer 'root' and of its reference: roots of wide numbers, means; the chapter's examples. -/
import Derived.WalkMore
import Derived.Laws.BitsAllLaws
import Derived.Deep.LoopGhost
import Derived.Test.YtlinfennhfphiaaDoorWa
import Derived.Test.YtlinfennhfphiaaDoorWc
import Derived.Test.YtlinfennhfphiaaDoorRo
import Derived.Test.YtlinfennhfphiaaDoorSu
namespace Go.Proofs.YtlinfennhfphiaaDoor

def nrt : Nat → Nat
  | 0 => 0
  | n + 1 => if (nrt n + 1) * (nrt n + 1) ≤ n + 1 then nrt n + 1 else nrt n
theorem nrt_spec (n : Nat) : nrt n * nrt n ≤ n ∧ n < (nrt n + 1) * (nrt n + 1) := by
  induction n with
  | zero => decide
  | succ n ih =>
    rw [nrt]
    split
    · rename_i h
      refine ⟨h, ?_⟩
      have e : (nrt n + 1 + 1) * (nrt n + 1 + 1) = (nrt n + 1) * (nrt n + 1) + 2 * (nrt n + 1) + 1 := by simp only [Nat.mul_add, Nat.add_mul, Nat.one_mul, Nat.mul_one]; omega
      omega
    · omega
/-- The whole root. -/
def rt (a : Int) : Int := nrt a.toNat
theorem rt_nonneg (a : Int) : 0 ≤ rt a := Int.natCast_nonneg _
theorem rt_le {a : Int} (h : 0 ≤ a) : rt a * rt a ≤ a := by
  have := (nrt_spec a.toNat).1
  unfold rt
  have e : ((nrt a.toNat * nrt a.toNat : Nat) : Int) = (nrt a.toNat : Int) * nrt a.toNat := Int.natCast_mul _ _
  omega
theorem rt_lt {a : Int} (h : 0 ≤ a) : a < (rt a + 1) * (rt a + 1) := by
  have := (nrt_spec a.toNat).2
  unfold rt
  have e : (((nrt a.toNat + 1) * (nrt a.toNat + 1) : Nat) : Int) = ((nrt a.toNat : Int) + 1) * (nrt a.toNat + 1) := by rw [Int.natCast_mul]; rfl
  omega
theorem sq_lt {x y : Int} (h0 : 0 ≤ x) (h : x < y) : x * x < y * y := by
  have h1 : x * x ≤ x * y := Int.mul_le_mul_of_nonneg_left (by omega) h0
  have h2 : x * y < y * y := Int.mul_lt_mul_of_pos_right h (by omega)
  omega
theorem sq_le {x y : Int} (h0 : 0 ≤ x) (h : x ≤ y) : x * x ≤ y * y := Int.mul_le_mul h h h0 (by omega)
theorem lt_of_sq {x y : Int} (hy : 0 ≤ y) (h : x * x < y * y) : x < y := by
  rcases Int.lt_or_le x y with k | k
  · exact k
  · have := sq_le hy k; omega
theorem le_of_sq {x y : Int} (hy : 0 ≤ y) (h : x * x ≤ y * y) : x ≤ y := by
  rcases Int.lt_or_le y x with k | k
  · have := sq_lt hy k; omega
  · exact k
theorem rt_uniq {a r : Int} (h0 : 0 ≤ r) (h1 : r * r ≤ a) (h2 : a < (r + 1) * (r + 1)) : rt a = r := by
  have ha : 0 ≤ a := by have := Int.mul_nonneg h0 h0; omega
  have k1 := rt_le ha
  have k2 := rt_lt ha
  have k0 := rt_nonneg a
  have q1 : rt a < r + 1 := lt_of_sq (by omega) (by omega)
  have q2 : r < rt a + 1 := lt_of_sq (by omega) (by omega)
  omega
theorem rt_bd {a : Int} {m : Int} (h0 : 0 ≤ a) (hm : 0 ≤ m) (h : a < m * m) : rt a < m := lt_of_sq hm (by have := rt_le h0; omega)
theorem rt_sq {x : Int} (h : 0 ≤ x) : rt (x * x) = x := by
  have : (x + 1) * (x + 1) = x * x + 2 * x + 1 := by simp only [Int.mul_add, Int.add_mul, Int.one_mul, Int.mul_one]; omega
  exact rt_uniq h (Int.le_refl _) (by omega)
theorem rt_sq1 {x : Int} (h : 1 ≤ x) : rt (x * x - 1) = x - 1 := by
  have e : x * x = (x - 1) * (x - 1) + 2 * (x - 1) + 1 := by simp only [Int.mul_sub, Int.sub_mul, Int.one_mul, Int.mul_one]; omega
  have e2 : (x - 1 + 1) * (x - 1 + 1) = x * x := by rw [show x - 1 + 1 = x by omega]
  exact rt_uniq (by omega) (by omega) (by omega)
/-- One bit more of a root. -/
theorem rt_bit {a o : Int} {i : Nat} (h1 : o * o ≤ a) (h2 : a < (o + 2 ^ (i + 1)) * (o + 2 ^ (i + 1))) : (a < (o + 2 ^ i) * (o + 2 ^ i) → o * o ≤ a ∧ a < (o + 2 ^ i) * (o + 2 ^ i)) ∧ ((o + 2 ^ i) * (o + 2 ^ i) ≤ a → (o + 2 ^ i) * (o + 2 ^ i) ≤ a ∧ a < (o + 2 ^ i + 2 ^ i) * (o + 2 ^ i + 2 ^ i)) := by
  refine ⟨fun h => ⟨h1, h⟩, fun h => ⟨h, ?_⟩⟩
  rw [show o + 2 ^ i + 2 ^ i = o + 2 ^ (i + 1) by rw [Int.pow_succ]; omega]
  exact h2
end Go.Proofs.YtlinfennhfphiaaDoor

namespace Go.Proofs.YtlinfennhfphiaaDoor
open Go.RowKit
set_option linter.unusedSimpArgs false
set_option linter.unusedVariables false
attribute [local go_sem] nlt2 nlt3 nlt4 nlt5 nlt6 nlt7 nlt8 nlt9 nlt10 nlt11 nlt12

theorem ret2_int' {k l : IntKind} {x y a b : Int} (h : x = a) (h2 : y = b) : Ending.returned (.tuple #[.int k x, .int l y]) = .returned (.tuple #[.int k a, .int l b]) := by rw [h, h2]
theorem pow_lt64 {i : Nat} (h : i ≤ 63) : (2 : Int) ^ i < 18446744073709551616 := by
  have : (2 : Nat) ^ i < 2 ^ 64 := Nat.pow_lt_pow_right (by omega) (by omega)
  have e : ((2 ^ i : Nat) : Int) = (2 : Int) ^ i := Int.natCast_pow 2 i
  omega
theorem or_bit (m i : Nat) (hi : i ≤ 63) (h : (2 : Int) ^ (i + 1) * m + 2 ^ (i + 1) ≤ 18446744073709551616) : bits .or .u64 ((2 : Int) ^ (i + 1) * m) (IntKind.u64.wrap (2 ^ i)) = 2 ^ (i + 1) * m + 2 ^ i := by
  have e1 : (2 : Int) ^ (i + 1) * m = ((2 ^ (i + 1) * m : Nat) : Int) := by rw [Int.natCast_mul, Int.natCast_pow]; rfl
  have e2 : (2 : Int) ^ i = ((2 ^ i : Nat) : Int) := (Int.natCast_pow 2 i).symm
  have e3 : (2 : Int) ^ (i + 1) = ((2 ^ (i + 1) : Nat) : Int) := (Int.natCast_pow 2 (i + 1)).symm
  have hlt : (2 : Nat) ^ i < 2 ^ (i + 1) := Nat.pow_lt_pow_right (by omega) (by omega)
  have hp : 0 < (2 : Nat) ^ (i + 1) := Nat.pow_pos (by omega)
  have hw : IntKind.u64.wrap (2 ^ i) = ((2 ^ i : Nat) : Int) := by rw [IntKind.wrap_u64, e2]; have := pow_lt64 hi; omega
  rw [hw, e1, u64_or_nat _ _ (by omega) (by have := pow_lt64 hi; omega), ← Nat.two_pow_add_eq_or_of_lt hlt, e2, Int.natCast_add]
theorem mulU (x : Int) (hx : 0 ≤ x) (hx2 : x < 18446744073709551616) (w : World) :
    Calls Tryd.prog 88 #[.int .u64 x, .int .u64 x] w fun e w' => e = .returned (.tuple #[.int .u64 (x * x / 18446744073709551616), .int .u64 (x * x % 18446744073709551616)]) ∧ w = w' := by
  obtain ⟨x, rfl⟩ := Int.eq_ofNat_of_zero_le hx
  refine (bits_Mul64 x x (by omega) (by omega) w).mono ?_
  rintro e w' ⟨rfl, rfl⟩
  exact ⟨by congr 1, rfl⟩

set_option maxRecDepth 100000 in
set_option maxHeartbeats 2000000 in
theorem root_Of_neg (a : Int) (ha : a < 0) (w : World) :
    Calls Tryd.prog 94 #[.agg #[.int .i64 (whi a), .int .u64 (wlo a)]] w fun e w' => e = .returned (.tuple #[.int .u64 0, .int .i64 1]) ∧ Below w.heap.size w w' := by
  have q : whi a < 0 := (whi_neg a).2 ha
  go_enter Tryd.func94, Tryd.ntmps94
  go_wp2
  go_step3
  go_wp2
  first | rw [Exit.noGoto_ret] | skip
  go_ret2
  exact ⟨rfl, (by repeat (first | exact Below.refl _ _ | assumption | refine bl_alloc ?_ _ | refine bl_drewN ?_ _ | refine bl_drew ?_ | refine bl_set ?_ (by first | (simp; done) | (simp; omega) | (dsimp only; omega)) _ | refine bl_then ?_ (by assumption)))⟩

set_option maxRecDepth 100000 in
set_option maxHeartbeats 4000000 in
theorem root_Of (a : Int) (ha : W128 a) (h0 : 0 ≤ a) (w : World) :
    Calls Tryd.prog 94 #[.agg #[.int .i64 (whi a), .int .u64 (wlo a)]] w fun e w' => e = .returned (.tuple #[.int .u64 (rt a), .int .i64 0]) ∧ Below w.heap.size w w' := by
  have HA := Asd.mk ha
  have H0 := Asd.mk h0
  have q : 0 ≤ whi a := by have := whi_neg a; omega
  have QA := Asd.mk (show 0 * 0 ≤ a ∧ a < (0 + 2 ^ 64) * (0 + 2 ^ 64) by unfold W128 at ha; omega)
  clear ha h0
  go_enter Tryd.func94, Tryd.ntmps94
  go_wp2
  go_step3
  go_wp2
  go_step3
  go_wp2
  go_outline
  go_loop [4, 5] (fun v4 v5 => ∃ (k : Nat) (o : Int), k ≤ 64 ∧ v5 = .int .i64 (k - 1) ∧ v4 = .int .u64 o ∧ 0 ≤ o ∧ Asd (∃ m : Nat, o = 2 ^ k * m ∧ o * o ≤ a ∧ a < (o + 2 ^ k) * (o + 2 ^ k) ∧ o + 2 ^ k ≤ 18446744073709551616)) (fun _ v5 => (intOf v5 + 1).toNat)
  case atStart => exact ⟨64, 0, by omega, rfl, rfl, by omega, ⟨0, by omega, QA.out.1, QA.out.2, by omega⟩⟩
  case round =>
    obtain ⟨k, o, hk, rfl, rfl, ho, HV⟩ := hrel
    by_cases hgo : 0 < k
    · obtain ⟨i, rfl⟩ : ∃ m, k = m + 1 := ⟨k - 1, by omega⟩
      rw [show (((i + 1 : Nat) : Int) - 1) = (i : Int) from by omega]
      have hi : i ≤ 63 := by omega
      obtain ⟨m, e, k1, k2, k3⟩ := HV.out
      have hp : (0 : Int) < 2 ^ i := Int.pow_pos (by omega)
      have hs : (2 : Int) ^ (i + 1) = 2 ^ i + 2 ^ i := by rw [Int.pow_succ]; omega
      have hb := rt_bit k1 k2
      obtain ⟨X, hX⟩ : ∃ X, X = o + 2 ^ i := ⟨_, rfl⟩
      have EO : bits BinOp.or IntKind.u64 o (IntKind.u64.wrap (2 ^ i)) = X := by rw [hX, e]; exact or_bit m i hi (by rw [← e]; exact k3)
      have hX0 : 0 ≤ X := by omega
      have hX1 : X < 18446744073709551616 := by omega
      have hsq : 0 ≤ X * X := Int.mul_nonneg hX0 hX0
      obtain ⟨H, hH⟩ : ∃ H, H = X * X / 18446744073709551616 := ⟨_, rfl⟩
      obtain ⟨L, hL⟩ : ∃ L, L = X * X % 18446744073709551616 := ⟨_, rfl⟩
      have MC := Asd.mk (fun W => mulU X hX0 hX1 W)
      rw [← hH, ← hL] at MC
      have bH : 0 ≤ H ∧ H < 18446744073709551616 := by
        have : X * X < 18446744073709551616 * 18446744073709551616 := sq_lt hX0 hX1
        omega
      have bL : 0 ≤ L ∧ L < 18446744073709551616 := by omega
      have hwa : whi a * 18446744073709551616 + wlo a = a := by unfold whi wlo; omega
      have hwl := wlo_u64 a
      have hq : whi a ≤ 9223372036854775807 := (whi_i64 HA.out).2
      have UP : Asd (a < X * X → ∃ m : Nat, o = 2 ^ i * m ∧ o * o ≤ a ∧ a < (o + 2 ^ i) * (o + 2 ^ i) ∧ o + 2 ^ i ≤ 18446744073709551616) := ⟨fun h => by
        rw [hX] at h
        have := hb.1 h
        exact ⟨2 * m, by rw [e, hs]; push_cast; rw [Int.add_mul, ← Int.mul_assoc, Int.mul_comm (2 ^ i) 2, Int.mul_assoc]; omega, this.1, this.2, by omega⟩⟩
      have DN : Asd (X * X ≤ a → ∃ m : Nat, X = 2 ^ i * m ∧ X * X ≤ a ∧ a < (X + 2 ^ i) * (X + 2 ^ i) ∧ X + 2 ^ i ≤ 18446744073709551616) := ⟨fun h => by
        rw [hX] at h ⊢
        have := hb.2 h
        exact ⟨2 * m + 1, by rw [e, hs]; push_cast; rw [Int.mul_add, Int.add_mul, ← Int.mul_assoc, Int.mul_comm (2 ^ i) 2, Int.mul_assoc]; omega, this.1, this.2, by omega⟩⟩
      have HW := Asd.mk hwa
      have HH := Asd.mk (show X * X = H * 18446744073709551616 + L by omega)
      have EX := Asd.mk hX
      have HB := Asd.mk bH
      have HBL := Asd.mk bL
      clear hb hsq hH hL hwa hX e k1 k2 k3 hs
      obtain ⟨b1, b2⟩ := bH
      obtain ⟨b3, b4⟩ := bL
      obtain ⟨b5, b6⟩ := hwl
      rcases Int.lt_trichotomy (whi a) H with c | c | c
      · go_wp2_with (go_at_call 88; refine (MC.out _).mono ?_; rintro e w' ⟨rfl, rfl⟩)
        go_round
        case rel => exact ⟨i, o, by omega, rfl, rfl, ho, ⟨UP.out (by have := HH.out; have := HW.out; omega)⟩⟩
        case measure => simp [intOf]
      · subst c
        by_cases c : wlo a < L
        · go_wp2_with (go_at_call 88; refine (MC.out _).mono ?_; rintro e w' ⟨rfl, rfl⟩)
          go_round
          case rel => exact ⟨i, o, by omega, rfl, rfl, ho, ⟨UP.out (by have := HH.out; have := HW.out; omega)⟩⟩
          case measure => simp [intOf]
        · go_wp2_with (go_at_call 88; refine (MC.out _).mono ?_; rintro e w' ⟨rfl, rfl⟩)
          go_round
          case rel => exact ⟨i, X, by omega, rfl, rfl, hX0, ⟨DN.out (by have := HH.out; have := HW.out; omega)⟩⟩
          case measure => simp [intOf]
      · have c2 : (H == whi a) = false := beq_eq_false_iff_ne.2 (by omega)
        have c3 := Asd.mk c
        go_wp2_with (go_at_call 88; refine (MC.out _).mono ?_; rintro e w' ⟨rfl, rfl⟩)
        go_round
        case rel => exact ⟨i, X, by omega, rfl, rfl, hX0, ⟨DN.out (by have := HH.out; have := HW.out; have := c3.out; omega)⟩⟩
        case measure => simp [intOf]
    · obtain rfl : k = 0 := by omega
      rw [show (((0 : Nat) : Int) - 1) = -1 from by omega]
      have HF := Asd.mk (show o = rt a by
        obtain ⟨m, _, k1, k2, _⟩ := HV.out
        exact (rt_uniq ho k1 (by simpa using k2)).symm)
      go_wp2
      go_ret2
      exact ⟨ret2_int' HF.out rfl, (by repeat (first | exact Below.refl _ _ | assumption | refine bl_alloc ?_ _ | refine bl_drewN ?_ _ | refine bl_drew ?_ | refine bl_set ?_ (by first | (simp; done) | (simp; omega) | (dsimp only; omega)) _ | refine bl_then ?_ (by assumption)))⟩
end Go.Proofs.YtlinfennhfphiaaDoor

namespace Go.Proofs.YtlinfennhfphiaaDoor
open Go.RowKit
set_option linter.unusedSimpArgs false
set_option linter.unusedVariables false
attribute [local go_sem] nlt2 nlt3 nlt4 nlt5 nlt6 nlt7 nlt8 nlt9 nlt10 nlt11 nlt12
attribute [local go_sem] field_D

theorem nd_64 {x : Int} (h0 : 0 ≤ x) (h : x ≤ 18446744073709551616) : nd x ≤ 5 := nd_le_of (by have e : pB 5 = 1208925819614629174706176 := by decide
                                                                                               rw [e]; omega)
theorem cmpZ_gt {a b : Int} (h : b < a) : cmpZ a b = 1 := by unfold cmpZ; rw [if_neg (by omega), if_neg (by omega)]
theorem cmpZ_self (a : Int) : cmpZ a a = 0 := by unfold cmpZ; rw [if_neg (by omega), if_pos rfl]
theorem ref_Div_two (x : Int) (A B : Option Addr) (c d : Nat) (ha : nd x ≤ 5000) (w : World) (hA : RB w A c x) (hB : RB w B d 2) :
    Calls Tryd.prog 69 #[.agg #[.bool (sg x), .slice A (nd x) c], .agg #[.bool (sg 2), .slice B (nd 2) d]] w (BigR w (x / 2)) := ref_Div x 2 A B c d (by omega) ha (Nat.le_trans (nd_le_of (k := 1) (by decide)) (by omega)) w hA hB

set_option maxRecDepth 100000 in
set_option maxHeartbeats 8000000 in
theorem ref3_Of (a : Int) (A : Option Addr) (c : Nat) (ha : 0 ≤ a) (hlt : a < 340282366920938463463374607431768211456) (w : World) (hA : RB w A c a) :
    Calls Tryd.prog 95 #[.agg #[.bool (sg a), .slice A (nd a) c]] w (BigR w (rt a)) := by
  have S0 := Asd.mk ((St.refl w).big hA)
  obtain ⟨N, hN⟩ : ∃ N : Nat, N = 18446744073709551616 := ⟨_, rfl⟩
  have HN := Asd.mk hN
  have H0 := Asd.mk (show 0 ≤ (0 : Int) ∧ (0 : Int) < pow2 64 ∧ pow2 64 ≤ 18446744073709551616 ∧ (0 : Int) * 0 ≤ a ∧ a < pow2 64 * pow2 64 by rw [pow2_64]; omega)
  have na : Asd (nd a ≤ 10000) := ⟨by have : nd a ≤ 8 := nd_le_of (by have e : pB 8 = 340282366920938463463374607431768211456 := by decide
                                                                      rw [e]; omega)
                                      omega⟩
  have I0 : Asd (I64 0) := ⟨by decide⟩
  have I1 : Asd (I64 1) := ⟨by decide⟩
  have I2 : Asd (I64 2) := ⟨by decide⟩
  clear hA ha hlt hN
  go_enter Tryd.func95, Tryd.ntmps95
  go_wp2_with (first
      | (go_at_call 67; replace S1 := S1; refine (ref_Power 64 (by omega) _).mono ?_; rintro e w2 ⟨A2, c2, rfl, hr2, hb2⟩; apply St.stepB (w0 := w) (hb := hb2) (hr := hr2); (focus (with_reducible repeat (first | exact S1.out | apply St.lay | apply St.drew | apply St.drewN))); intro S2; (try simp only [sz_alloc, sz_drew, sz_drewN] at S2); clear hr2 hb2 S1; (try clear C1); have C2 := S2.out.facts; simp only [facts, apart, cellsAt, Nat.zero_add, Nat.reduceAdd, and_true] at C2)
      | (go_at_call 52; replace S0 := S0; refine (ref_Of 0 I0.out _).mono ?_; rintro e w1 ⟨A1, c1, rfl, hr1, hb1⟩; apply St.stepB (w0 := w) (hb := hb1) (hr := hr1); (focus (with_reducible repeat (first | exact S0.out | apply St.lay | apply St.drew | apply St.drewN))); intro S1; (try simp only [sz_alloc, sz_drew, sz_drewN] at S1); clear hr1 hb1 S0; (try clear C0); have C1 := S1.out.facts; simp only [facts, apart, cellsAt, Nat.zero_add, Nat.reduceAdd, and_true] at C1))
  go_loopg [] N (fun k wr => ∃ (l h : Int) (Al : Option Addr) (cl : Nat) (Ah : Option Addr) (ch : Nat), (h - l).toNat ≤ k ∧ Asd (0 ≤ l ∧ l < h ∧ h ≤ 18446744073709551616 ∧ l * l ≤ a ∧ a < h * h) ∧ Asd (St w wr [(w2.heap.size + 1, [.bool (sg h), .slice Ah (nd h) ch]), (w2.heap.size, [.bool (sg l), .slice Al (nd l) cl]), (w.heap.size + 1, [.bool false, .slice none 0 0]), (w.heap.size, [.bool (sg a), .slice A (nd a) c])] [(Al, cl, l), (Ah, ch, h), (A, c, a)]))
  case atStart => exact ⟨0, pow2 64, A1, c1, A2, c2, by have := HN.out; rw [pow2_64]; omega, H0, ⟨St.of (by have hlow := S2.out.lows; simp only [low, and_true] at hlow; exact (by repeat (first | exact Below.refl _ _ | assumption | exact S2.out.bl | refine bl_alloc ?_ _ | refine bl_drewN ?_ _ | refine bl_drew ?_ | refine bl_set ?_ (by first | (simp; done) | (simp; omega) | (dsimp only; omega)) _ | refine bl_then ?_ (by assumption)))) (by simp (maxDischargeDepth := 9) [facts, cellsAt, apart, go_sem, *]; try omega) (by have hlow := S2.out.lows; simp only [low, and_true] at hlow; have hsz := S2.out.bl.size; simp [low]; try omega) (by refine ⟨(by repeat (first | exact S2.out.rb 1 rfl | refine RB.lay ?_ _ | refine RS.drewN ?_ _ | refine RS.drew ?_ | refine RB.put ?_ (by simp (maxDischargeDepth := 9) [go_sem, digitless, *]; done) _)), (by repeat (first | exact S2.out.rb 0 rfl | refine RB.lay ?_ _ | refine RS.drewN ?_ _ | refine RS.drew ?_ | refine RB.put ?_ (by simp (maxDischargeDepth := 9) [go_sem, digitless, *]; done) _)), (by repeat (first | exact S2.out.rb 2 rfl | refine RB.lay ?_ _ | refine RS.drewN ?_ _ | refine RS.drew ?_ | refine RB.put ?_ (by simp (maxDischargeDepth := 9) [go_sem, digitless, *]; done) _)), trivial⟩)⟩⟩
  case round =>
    obtain ⟨l, h, Al, cl, Ah, ch, hk, HI, S3⟩ := hrel
    obtain ⟨q0, q1, q2, q3, q4⟩ := HI.out
    have nl : Asd (nd l ≤ 10000) := ⟨by have := nd_64 q0 (by omega); omega⟩
    have nh : Asd (nd h ≤ 10000) := ⟨by have := nd_64 (show 0 ≤ h by omega) q2; omega⟩
    have nd1 : Asd (nd (h - l) ≤ 10000) := ⟨by have := nd_64 (show 0 ≤ h - l by omega) (by omega); omega⟩
    have nc1 : Asd (nd 1 ≤ 10000) := ⟨Nat.le_trans (nd_le_of (k := 1) (by decide)) (by omega)⟩
    by_cases hgo : 1 < h - l
    · have HC := Asd.mk (cmpZ_gt hgo)
      obtain ⟨M, hM⟩ : ∃ M, M = (l + h) / 2 := ⟨_, rfl⟩
      have HM := Asd.mk hM
      have hM1 : l < M := by omega
      have hM2 : M < h := by omega
      have ns : Asd (nd (l + h) ≤ 5000) := ⟨by have h1 := nd_64 q0 (by omega); have h2 := nd_64 (show 0 ≤ h by omega) q2; have := nd_add l h; omega⟩
      have nm : Asd (nd M ≤ 10000) := ⟨by have := nd_64 (show 0 ≤ M by omega) (by omega); omega⟩
      have nmm : Asd (nd (M * M) ≤ 10000) := ⟨by have h1 := nd_64 (show 0 ≤ M by omega) (by omega); have := nd_mul M M; omega⟩
      have HD := Asd.mk (fun (A' B' : Option Addr) (c' d' : Nat) (W : World) (h1 : RB W A' c' (l + h)) (h2 : RB W B' d' 2) => ref_Div_two (l + h) A' B' c' d' ns.out W h1 h2)
      rw [← hM] at HD
      have HMI := Asd.mk (show l < M ∧ M < h from ⟨hM1, hM2⟩)
      have HK := Asd.mk hk
      by_cases hup : a < M * M
      · have HT := Asd.mk hup
        have HZ := Asd.mk (cmpZ_gt hup)
        clear hup hM hM1 hM2 hk hgo
        have C3 := S3.out.facts
        simp only [facts, apart, cellsAt, Nat.zero_add, Nat.reduceAdd, and_true] at C3
        go_wp2_with (first
      | (go_at_call 69; replace S8 := S8; refine (HD.out A7 A8 c7 c8 _ (by exact RB.below (S8.out.rb 1 rfl) (by with_reducible repeat (first | exact Below.refl _ _ | refine bl_alloc ?_ _ | refine bl_drewN ?_ _ | refine bl_drew ?_))) (by exact RB.below (S8.out.rb 0 rfl) (by with_reducible repeat (first | exact Below.refl _ _ | refine bl_alloc ?_ _ | refine bl_drewN ?_ _ | refine bl_drew ?_)))).mono ?_; rintro e w9 ⟨A9, c9, rfl, hr9, hb9⟩; apply St.stepB (w0 := w) (hb := hb9) (hr := hr9); (focus (with_reducible repeat (first | exact S8.out | apply St.lay | apply St.drew | apply St.drewN))); intro S9; (try simp only [sz_alloc, sz_drew, sz_drewN] at S9); clear hr9 hb9 S8; (try clear C8); have C9 := S9.out.facts; simp only [facts, apart, cellsAt, Nat.zero_add, Nat.reduceAdd, and_true] at C9)
      | (go_at_call 52; replace S7 := S7; refine (ref_Of 2 I2.out _).mono ?_; rintro e w8 ⟨A8, c8, rfl, hr8, hb8⟩; apply St.stepB (w0 := w) (hb := hb8) (hr := hr8); (focus (with_reducible repeat (first | exact S7.out | apply St.lay | apply St.drew | apply St.drewN))); intro S8; (try simp only [sz_alloc, sz_drew, sz_drewN] at S8); clear hr8 hb8 S7; (try clear C7); have C8 := S8.out.facts; simp only [facts, apart, cellsAt, Nat.zero_add, Nat.reduceAdd, and_true] at C8)
      | (go_at_call 82; replace S6 := S6; refine (ref_Add l h Al Ah cl ch nl.out nh.out _ (by exact RB.below (S6.out.rb 2 rfl) (by with_reducible repeat (first | exact Below.refl _ _ | refine bl_alloc ?_ _ | refine bl_drewN ?_ _ | refine bl_drew ?_))) (by exact RB.below (S6.out.rb 3 rfl) (by with_reducible repeat (first | exact Below.refl _ _ | refine bl_alloc ?_ _ | refine bl_drewN ?_ _ | refine bl_drew ?_)))).mono ?_; rintro e w7 ⟨A7, c7, rfl, hr7, hb7⟩; apply St.stepB (w0 := w) (hb := hb7) (hr := hr7); (focus (with_reducible repeat (first | exact S6.out | apply St.lay | apply St.drew | apply St.drewN))); intro S7; (try simp only [sz_alloc, sz_drew, sz_drewN] at S7); clear hr7 hb7 S6; (try clear C6); have C7 := S7.out.facts; simp only [facts, apart, cellsAt, Nat.zero_add, Nat.reduceAdd, and_true] at C7)
      | (go_at_call 53; replace S5 := S5; refine (ref_Cmp (h - l) 1 A4 A5 c4 c5 nd1.out nc1.out _ (by exact RB.below (S5.out.rb 1 rfl) (by with_reducible repeat (first | exact Below.refl _ _ | refine bl_alloc ?_ _ | refine bl_drewN ?_ _ | refine bl_drew ?_))) (by exact RB.below (S5.out.rb 0 rfl) (by with_reducible repeat (first | exact Below.refl _ _ | refine bl_alloc ?_ _ | refine bl_drewN ?_ _ | refine bl_drew ?_)))).mono ?_; rintro e w6 ⟨rfl, hb6⟩; rw [HC.out]; apply St.step (w0 := w) (hb := hb6); (focus (with_reducible repeat (first | exact S5.out | apply St.lay | apply St.drew | apply St.drewN))); intro S6; (try simp only [sz_alloc, sz_drew, sz_drewN] at S6); clear hb6 S5; (try clear C5); have C6 := S6.out.facts; simp only [facts, apart, cellsAt, Nat.zero_add, Nat.reduceAdd, and_true] at C6)
      | (go_at_call 52; replace S4 := S4; refine (ref_Of 1 I1.out _).mono ?_; rintro e w5 ⟨A5, c5, rfl, hr5, hb5⟩; apply St.stepB (w0 := w) (hb := hb5) (hr := hr5); (focus (with_reducible repeat (first | exact S4.out | apply St.lay | apply St.drew | apply St.drewN))); intro S5; (try simp only [sz_alloc, sz_drew, sz_drewN] at S5); clear hr5 hb5 S4; (try clear C4); have C5 := S5.out.facts; simp only [facts, apart, cellsAt, Nat.zero_add, Nat.reduceAdd, and_true] at C5)
      | (go_at_call 51; replace S3 := S3; refine (ref_Sub h l Ah Al ch cl nh.out nl.out _ (by exact RB.below (S3.out.rb 1 rfl) (by with_reducible repeat (first | exact Below.refl _ _ | refine bl_alloc ?_ _ | refine bl_drewN ?_ _ | refine bl_drew ?_))) (by exact RB.below (S3.out.rb 0 rfl) (by with_reducible repeat (first | exact Below.refl _ _ | refine bl_alloc ?_ _ | refine bl_drewN ?_ _ | refine bl_drew ?_)))).mono ?_; rintro e w4 ⟨A4, c4, rfl, hr4, hb4⟩; apply St.stepB (w0 := w) (hb := hb4) (hr := hr4); (focus (with_reducible repeat (first | exact S3.out | apply St.lay | apply St.drew | apply St.drewN))); intro S4; (try simp only [sz_alloc, sz_drew, sz_drewN] at S4); clear hr4 hb4 S3; (try clear C3); have C4 := S4.out.facts; simp only [facts, apart, cellsAt, Nat.zero_add, Nat.reduceAdd, and_true] at C4))
        go_region_held3 (fun w' => w'.cell? ⟨w9.heap.size, 0, none⟩ = some (.bool (sg M)) ∧ w'.cell? ⟨w9.heap.size, 1, none⟩ = some (.slice A9 (nd M) c9) ∧ w'.cell? ⟨w.heap.size, 0, none⟩ = some (.bool (sg a)) ∧ w'.cell? ⟨w.heap.size, 1, none⟩ = some (.slice A (nd a) c))
    (first | (simp [go_sem, *]; done) | (simp (maxDischargeDepth := 9) [go_sem, *]; done))
    (first
      | (go_at_call 53; replace S10 := S10; refine (ref_Cmp (M * M) a A10 A c10 c nmm.out na.out _ (by exact RB.below (S10.out.rb 0 rfl) (by with_reducible repeat (first | exact Below.refl _ _ | refine bl_alloc ?_ _ | refine bl_drewN ?_ _ | refine bl_drew ?_))) (by exact RB.below (S10.out.rb 8 rfl) (by with_reducible repeat (first | exact Below.refl _ _ | refine bl_alloc ?_ _ | refine bl_drewN ?_ _ | refine bl_drew ?_)))).mono ?_; rintro e w11 ⟨rfl, hb11⟩; rw [HZ.out]; apply St.step (w0 := w) (hb := hb11); (focus (with_reducible repeat (first | exact S10.out | apply St.lay | apply St.drew | apply St.drewN))); intro S11; (try simp only [sz_alloc, sz_drew, sz_drewN] at S11); clear hb11 S10; (try clear C10); have C11 := S11.out.facts; simp only [facts, apart, cellsAt, Nat.zero_add, Nat.reduceAdd, and_true] at C11)
      | (go_at_call 54; replace S9 := S9; refine (ref_Mul M M A9 A9 c9 c9 nm.out nm.out _ (by exact RB.below (S9.out.rb 0 rfl) (by with_reducible repeat (first | exact Below.refl _ _ | refine bl_alloc ?_ _ | refine bl_drewN ?_ _ | refine bl_drew ?_))) (by exact RB.below (S9.out.rb 0 rfl) (by with_reducible repeat (first | exact Below.refl _ _ | refine bl_alloc ?_ _ | refine bl_drewN ?_ _ | refine bl_drew ?_)))).mono ?_; rintro e w10 ⟨A10, c10, rfl, hr10, hb10⟩; apply St.stepB (w0 := w) (hb := hb10) (hr := hr10); (focus (with_reducible repeat (first | exact S9.out | apply St.lay | apply St.drew | apply St.drewN))); intro S10; (try simp only [sz_alloc, sz_drew, sz_drewN] at S10); clear hr10 hb10 S9; (try clear C9); have C10 := S10.out.facts; simp only [facts, apart, cellsAt, Nat.zero_add, Nat.reduceAdd, and_true] at C10))
        go_wp2
        go_roundg (M - l).toNat
        case rel => exact ⟨l, M, Al, cl, A9, c9, Nat.le_refl _, ⟨⟨q0, HMI.out.1, by have := HMI.out.2; omega, q3, HT.out⟩⟩, ⟨St.less (St.set (St.set S11.out 1 0 rfl (by simp) (.inr rfl) _) 1 1 rfl (by simp) (.inr rfl) _) (List.Sublist.cons _ (List.Sublist.refl _)) (by simp)⟩⟩
        case measure => have h1 := HMI.out; have h2 := HK.out; omega
      · have HT := Asd.mk (show M * M ≤ a by omega)
        obtain ⟨z, hz, hz0⟩ : ∃ z, cmpZ (M * M) a = z ∧ z ≤ 0 := ⟨_, rfl, by unfold cmpZ; split; omega; split <;> omega⟩
        have HZ := Asd.mk hz
        clear hup hz hM hM1 hM2 hk hgo
        have C3 := S3.out.facts
        simp only [facts, apart, cellsAt, Nat.zero_add, Nat.reduceAdd, and_true] at C3
        go_wp2_with (first
      | (go_at_call 69; replace S8 := S8; refine (HD.out A7 A8 c7 c8 _ (by exact RB.below (S8.out.rb 1 rfl) (by with_reducible repeat (first | exact Below.refl _ _ | refine bl_alloc ?_ _ | refine bl_drewN ?_ _ | refine bl_drew ?_))) (by exact RB.below (S8.out.rb 0 rfl) (by with_reducible repeat (first | exact Below.refl _ _ | refine bl_alloc ?_ _ | refine bl_drewN ?_ _ | refine bl_drew ?_)))).mono ?_; rintro e w9 ⟨A9, c9, rfl, hr9, hb9⟩; apply St.stepB (w0 := w) (hb := hb9) (hr := hr9); (focus (with_reducible repeat (first | exact S8.out | apply St.lay | apply St.drew | apply St.drewN))); intro S9; (try simp only [sz_alloc, sz_drew, sz_drewN] at S9); clear hr9 hb9 S8; (try clear C8); have C9 := S9.out.facts; simp only [facts, apart, cellsAt, Nat.zero_add, Nat.reduceAdd, and_true] at C9)
      | (go_at_call 52; replace S7 := S7; refine (ref_Of 2 I2.out _).mono ?_; rintro e w8 ⟨A8, c8, rfl, hr8, hb8⟩; apply St.stepB (w0 := w) (hb := hb8) (hr := hr8); (focus (with_reducible repeat (first | exact S7.out | apply St.lay | apply St.drew | apply St.drewN))); intro S8; (try simp only [sz_alloc, sz_drew, sz_drewN] at S8); clear hr8 hb8 S7; (try clear C7); have C8 := S8.out.facts; simp only [facts, apart, cellsAt, Nat.zero_add, Nat.reduceAdd, and_true] at C8)
      | (go_at_call 82; replace S6 := S6; refine (ref_Add l h Al Ah cl ch nl.out nh.out _ (by exact RB.below (S6.out.rb 2 rfl) (by with_reducible repeat (first | exact Below.refl _ _ | refine bl_alloc ?_ _ | refine bl_drewN ?_ _ | refine bl_drew ?_))) (by exact RB.below (S6.out.rb 3 rfl) (by with_reducible repeat (first | exact Below.refl _ _ | refine bl_alloc ?_ _ | refine bl_drewN ?_ _ | refine bl_drew ?_)))).mono ?_; rintro e w7 ⟨A7, c7, rfl, hr7, hb7⟩; apply St.stepB (w0 := w) (hb := hb7) (hr := hr7); (focus (with_reducible repeat (first | exact S6.out | apply St.lay | apply St.drew | apply St.drewN))); intro S7; (try simp only [sz_alloc, sz_drew, sz_drewN] at S7); clear hr7 hb7 S6; (try clear C6); have C7 := S7.out.facts; simp only [facts, apart, cellsAt, Nat.zero_add, Nat.reduceAdd, and_true] at C7)
      | (go_at_call 53; replace S5 := S5; refine (ref_Cmp (h - l) 1 A4 A5 c4 c5 nd1.out nc1.out _ (by exact RB.below (S5.out.rb 1 rfl) (by with_reducible repeat (first | exact Below.refl _ _ | refine bl_alloc ?_ _ | refine bl_drewN ?_ _ | refine bl_drew ?_))) (by exact RB.below (S5.out.rb 0 rfl) (by with_reducible repeat (first | exact Below.refl _ _ | refine bl_alloc ?_ _ | refine bl_drewN ?_ _ | refine bl_drew ?_)))).mono ?_; rintro e w6 ⟨rfl, hb6⟩; rw [HC.out]; apply St.step (w0 := w) (hb := hb6); (focus (with_reducible repeat (first | exact S5.out | apply St.lay | apply St.drew | apply St.drewN))); intro S6; (try simp only [sz_alloc, sz_drew, sz_drewN] at S6); clear hb6 S5; (try clear C5); have C6 := S6.out.facts; simp only [facts, apart, cellsAt, Nat.zero_add, Nat.reduceAdd, and_true] at C6)
      | (go_at_call 52; replace S4 := S4; refine (ref_Of 1 I1.out _).mono ?_; rintro e w5 ⟨A5, c5, rfl, hr5, hb5⟩; apply St.stepB (w0 := w) (hb := hb5) (hr := hr5); (focus (with_reducible repeat (first | exact S4.out | apply St.lay | apply St.drew | apply St.drewN))); intro S5; (try simp only [sz_alloc, sz_drew, sz_drewN] at S5); clear hr5 hb5 S4; (try clear C4); have C5 := S5.out.facts; simp only [facts, apart, cellsAt, Nat.zero_add, Nat.reduceAdd, and_true] at C5)
      | (go_at_call 51; replace S3 := S3; refine (ref_Sub h l Ah Al ch cl nh.out nl.out _ (by exact RB.below (S3.out.rb 1 rfl) (by with_reducible repeat (first | exact Below.refl _ _ | refine bl_alloc ?_ _ | refine bl_drewN ?_ _ | refine bl_drew ?_))) (by exact RB.below (S3.out.rb 0 rfl) (by with_reducible repeat (first | exact Below.refl _ _ | refine bl_alloc ?_ _ | refine bl_drewN ?_ _ | refine bl_drew ?_)))).mono ?_; rintro e w4 ⟨A4, c4, rfl, hr4, hb4⟩; apply St.stepB (w0 := w) (hb := hb4) (hr := hr4); (focus (with_reducible repeat (first | exact S3.out | apply St.lay | apply St.drew | apply St.drewN))); intro S4; (try simp only [sz_alloc, sz_drew, sz_drewN] at S4); clear hr4 hb4 S3; (try clear C3); have C4 := S4.out.facts; simp only [facts, apart, cellsAt, Nat.zero_add, Nat.reduceAdd, and_true] at C4))
        go_region_held3 (fun w' => w'.cell? ⟨w9.heap.size, 0, none⟩ = some (.bool (sg M)) ∧ w'.cell? ⟨w9.heap.size, 1, none⟩ = some (.slice A9 (nd M) c9) ∧ w'.cell? ⟨w.heap.size, 0, none⟩ = some (.bool (sg a)) ∧ w'.cell? ⟨w.heap.size, 1, none⟩ = some (.slice A (nd a) c))
    (first | (simp [go_sem, *]; done) | (simp (maxDischargeDepth := 9) [go_sem, *]; done))
    (first
      | (go_at_call 53; replace S10 := S10; refine (ref_Cmp (M * M) a A10 A c10 c nmm.out na.out _ (by exact RB.below (S10.out.rb 0 rfl) (by with_reducible repeat (first | exact Below.refl _ _ | refine bl_alloc ?_ _ | refine bl_drewN ?_ _ | refine bl_drew ?_))) (by exact RB.below (S10.out.rb 8 rfl) (by with_reducible repeat (first | exact Below.refl _ _ | refine bl_alloc ?_ _ | refine bl_drewN ?_ _ | refine bl_drew ?_)))).mono ?_; rintro e w11 ⟨rfl, hb11⟩; rw [HZ.out]; apply St.step (w0 := w) (hb := hb11); (focus (with_reducible repeat (first | exact S10.out | apply St.lay | apply St.drew | apply St.drewN))); intro S11; (try simp only [sz_alloc, sz_drew, sz_drewN] at S11); clear hb11 S10; (try clear C10); have C11 := S11.out.facts; simp only [facts, apart, cellsAt, Nat.zero_add, Nat.reduceAdd, and_true] at C11)
      | (go_at_call 54; replace S9 := S9; refine (ref_Mul M M A9 A9 c9 c9 nm.out nm.out _ (by exact RB.below (S9.out.rb 0 rfl) (by with_reducible repeat (first | exact Below.refl _ _ | refine bl_alloc ?_ _ | refine bl_drewN ?_ _ | refine bl_drew ?_))) (by exact RB.below (S9.out.rb 0 rfl) (by with_reducible repeat (first | exact Below.refl _ _ | refine bl_alloc ?_ _ | refine bl_drewN ?_ _ | refine bl_drew ?_)))).mono ?_; rintro e w10 ⟨A10, c10, rfl, hr10, hb10⟩; apply St.stepB (w0 := w) (hb := hb10) (hr := hr10); (focus (with_reducible repeat (first | exact S9.out | apply St.lay | apply St.drew | apply St.drewN))); intro S10; (try simp only [sz_alloc, sz_drew, sz_drewN] at S10); clear hr10 hb10 S9; (try clear C9); have C10 := S10.out.facts; simp only [facts, apart, cellsAt, Nat.zero_add, Nat.reduceAdd, and_true] at C10))
        go_wp2
        go_roundg (h - M).toNat
        case rel => exact ⟨M, h, A9, c9, Ah, ch, Nat.le_refl _, ⟨⟨by have := HMI.out.1; omega, HMI.out.2, q2, HT.out, q4⟩⟩, ⟨St.less (St.set (St.set S11.out 2 0 rfl (by simp) (.inr rfl) _) 2 1 rfl (by simp) (.inr rfl) _) (List.Sublist.cons _ (List.Sublist.refl _)) (by simp)⟩⟩
        case measure => have h1 := HMI.out; have h2 := HK.out; omega
    · have e1 : h - l = 1 := by omega
      have HC := Asd.mk (cmpZ_self 1)
      have HR := Asd.mk (rt_uniq (a := a) (r := l) q0 q3 (by rw [show l + 1 = h by omega]; exact q4))
      have HE := Asd.mk e1
      have HS := Asd.mk (fun (W : World) (h1 : RB W Ah ch h) (h2 : RB W Al cl l) => ref_Sub h l Ah Al ch cl nh.out nl.out W h1 h2)
      rw [e1] at HS
      clear hgo e1 hk
      have C3 := S3.out.facts
      simp only [facts, apart, cellsAt, Nat.zero_add, Nat.reduceAdd, and_true] at C3
      go_wp2_with (first
      | (go_at_call 53; replace S5 := S5; refine (ref_Cmp 1 1 A4 A5 c4 c5 nc1.out nc1.out _ (by exact RB.below (S5.out.rb 1 rfl) (by with_reducible repeat (first | exact Below.refl _ _ | refine bl_alloc ?_ _ | refine bl_drewN ?_ _ | refine bl_drew ?_))) (by exact RB.below (S5.out.rb 0 rfl) (by with_reducible repeat (first | exact Below.refl _ _ | refine bl_alloc ?_ _ | refine bl_drewN ?_ _ | refine bl_drew ?_)))).mono ?_; rintro e w6 ⟨rfl, hb6⟩; rw [HC.out]; apply St.step (w0 := w) (hb := hb6); (focus (with_reducible repeat (first | exact S5.out | apply St.lay | apply St.drew | apply St.drewN))); intro S6; (try simp only [sz_alloc, sz_drew, sz_drewN] at S6); clear hb6 S5; (try clear C5); have C6 := S6.out.facts; simp only [facts, apart, cellsAt, Nat.zero_add, Nat.reduceAdd, and_true] at C6)
      | (go_at_call 52; replace S4 := S4; refine (ref_Of 1 I1.out _).mono ?_; rintro e w5 ⟨A5, c5, rfl, hr5, hb5⟩; apply St.stepB (w0 := w) (hb := hb5) (hr := hr5); (focus (with_reducible repeat (first | exact S4.out | apply St.lay | apply St.drew | apply St.drewN))); intro S5; (try simp only [sz_alloc, sz_drew, sz_drewN] at S5); clear hr5 hb5 S4; (try clear C4); have C5 := S5.out.facts; simp only [facts, apart, cellsAt, Nat.zero_add, Nat.reduceAdd, and_true] at C5)
      | (go_at_call 51; replace S3 := S3; refine (HS.out _ (by exact RB.below (S3.out.rb 1 rfl) (by with_reducible repeat (first | exact Below.refl _ _ | refine bl_alloc ?_ _ | refine bl_drewN ?_ _ | refine bl_drew ?_))) (by exact RB.below (S3.out.rb 0 rfl) (by with_reducible repeat (first | exact Below.refl _ _ | refine bl_alloc ?_ _ | refine bl_drewN ?_ _ | refine bl_drew ?_)))).mono ?_; rintro e w4 ⟨A4, c4, rfl, hr4, hb4⟩; apply St.stepB (w0 := w) (hb := hb4) (hr := hr4); (focus (with_reducible repeat (first | exact S3.out | apply St.lay | apply St.drew | apply St.drewN))); intro S4; (try simp only [sz_alloc, sz_drew, sz_drewN] at S4); clear hr4 hb4 S3; (try clear C3); have C4 := S4.out.facts; simp only [facts, apart, cellsAt, Nat.zero_add, Nat.reduceAdd, and_true] at C4))
      have S7 := (St.set (St.set S6.out 2 0 rfl (by simp) (.inr rfl) (.bool (sg l))) 2 1 rfl (by simp) (.inr rfl) (.slice Al (nd l) cl))
      rw [HR.out]
      refine bodyPost_ret (v := .agg #[.bool (sg l), .slice Al (nd l) cl]) (by simp (maxDischargeDepth := 9) [results, Tryd.results95, go_sem, *]) rfl ⟨_, _, rfl, S7.rb 2 rfl, S7.bl⟩
end Go.Proofs.YtlinfennhfphiaaDoor

namespace Go.Proofs.YtlinfennhfphiaaDoor
open Go.RowKit
set_option linter.unusedSimpArgs false
set_option linter.unusedVariables false
attribute [local go_sem] nlt2 nlt3 nlt4 nlt5 nlt6 nlt7 nlt8 nlt9 nlt10 nlt11 nlt12
attribute [local go_sem] field_D

/-- The mean of two numbers. -/
def mn (x y : Int) : Int := if x < 0 ∨ y < 0 then 0 else rt (x * y)
theorem prod0 {x y : Int} (hx : I64 x) (hy : I64 y) (h : ¬ (x < 0 ∨ y < 0)) : 0 ≤ x * y ∧ x * y < 85070591730234615865843651857942052864 := by
  have h1 : 0 ≤ x * y := Int.mul_nonneg (by omega) (by omega)
  have := mul_le_mul' (a := x) (b := y) 9223372036854775807 (by omega) (by omega) (by unfold I64 at hx; omega) (by unfold I64 at hy; omega)
  omega
theorem mn_i64 {x y : Int} (hx : I64 x) (hy : I64 y) : 0 ≤ mn x y ∧ mn x y ≤ 9223372036854775807 := by
  unfold mn
  split
  · omega
  · rename_i h
    have hp := prod0 hx hy h
    have := rt_bd (m := 9223372036854775808) hp.1 (by omega) (by omega)
    have := rt_nonneg (x * y)
    omega

set_option maxRecDepth 100000 in
set_option maxHeartbeats 4000000 in
theorem ref3_Mean (x y : Int) (hx : I64 x) (hy : I64 y) (w : World) :
    Calls Tryd.prog 59 #[.int .i64 x, .int .i64 y] w fun e w' => e = .returned (.int .i64 (mn x y)) ∧ Below w.heap.size w w' := by
  by_cases h : x < 0 ∨ y < 0
  · have e : mn x y = 0 := by unfold mn; rw [if_pos h]
    rw [e]
    rcases Decidable.em (x < 0) with h1 | h1
    · go_enter Tryd.func59, Tryd.ntmps59
      go_wp2
      go_ret
      exact ⟨rfl, (by repeat (first | exact Below.refl _ _ | assumption | refine bl_alloc ?_ _ | refine bl_drewN ?_ _ | refine bl_drew ?_ | refine bl_set ?_ (by first | (simp; done) | (simp; omega) | (dsimp only; omega)) _ | refine bl_then ?_ (by assumption)))⟩
    · have h2 : y < 0 := h.resolve_left h1
      go_enter Tryd.func59, Tryd.ntmps59
      go_wp2
      go_ret
      exact ⟨rfl, (by repeat (first | exact Below.refl _ _ | assumption | refine bl_alloc ?_ _ | refine bl_drewN ?_ _ | refine bl_drew ?_ | refine bl_set ?_ (by first | (simp; done) | (simp; omega) | (dsimp only; omega)) _ | refine bl_then ?_ (by assumption)))⟩
  · have e : mn x y = rt (x * y) := by unfold mn; rw [if_neg h]
    have hp := prod0 hx hy h
    have hm := mn_i64 hx hy
    rw [e] at hm ⊢
    have hlt : x * y < 340282366920938463463374607431768211456 := by omega
    have hI : I64 (rt (x * y)) := by unfold I64; omega
    have HP := Asd.mk hp
    have HL := Asd.mk hlt
    have HI := Asd.mk hI
    have n1 : Asd (nd x ≤ 10000) := ⟨by have := nd_i64 hx; omega⟩
    have n2 : Asd (nd y ≤ 10000) := ⟨by have := nd_i64 hy; omega⟩
    have h1 : 0 ≤ x := by omega
    have h2 : 0 ≤ y := by omega
    have S0 := Asd.mk (St.refl w)
    clear e h hp hm hlt hI
    go_enter Tryd.func59, Tryd.ntmps59
    go_wp2_with (first
      | (go_at_call 70; replace S4 := S4; refine (ref_Int_fits (rt (x * y)) A4 c4 HI.out _ (by exact RB.below (S4.out.rb 0 rfl) (by with_reducible repeat (first | exact Below.refl _ _ | refine bl_alloc ?_ _ | refine bl_drewN ?_ _ | refine bl_drew ?_)))).mono ?_; rintro e w5 ⟨rfl, hb5⟩; apply St.step (w0 := w) (hb := hb5); (focus (with_reducible repeat (first | exact S4.out | apply St.lay | apply St.drew | apply St.drewN))); intro S5; (try simp only [sz_alloc, sz_drew, sz_drewN] at S5); clear hb5 S4; (try clear C4); have C5 := S5.out.facts; simp only [facts, apart, cellsAt, Nat.zero_add, Nat.reduceAdd, and_true] at C5)
      | (go_at_call 95; replace S3 := S3; refine (ref3_Of (x * y) A3 c3 HP.out.1 HL.out _ (by exact RB.below (S3.out.rb 0 rfl) (by with_reducible repeat (first | exact Below.refl _ _ | refine bl_alloc ?_ _ | refine bl_drewN ?_ _ | refine bl_drew ?_)))).mono ?_; rintro e w4 ⟨A4, c4, rfl, hr4, hb4⟩; apply St.stepB (w0 := w) (hb := hb4) (hr := hr4); (focus (with_reducible repeat (first | exact S3.out | apply St.lay | apply St.drew | apply St.drewN))); intro S4; (try simp only [sz_alloc, sz_drew, sz_drewN] at S4); clear hr4 hb4 S3; (try clear C3); have C4 := S4.out.facts; simp only [facts, apart, cellsAt, Nat.zero_add, Nat.reduceAdd, and_true] at C4)
      | (go_at_call 54; replace S2 := S2; refine (ref_Mul x y A1 A2 c1 c2 n1.out n2.out _ (by exact RB.below (S2.out.rb 1 rfl) (by with_reducible repeat (first | exact Below.refl _ _ | refine bl_alloc ?_ _ | refine bl_drewN ?_ _ | refine bl_drew ?_))) (by exact RB.below (S2.out.rb 0 rfl) (by with_reducible repeat (first | exact Below.refl _ _ | refine bl_alloc ?_ _ | refine bl_drewN ?_ _ | refine bl_drew ?_)))).mono ?_; rintro e w3 ⟨A3, c3, rfl, hr3, hb3⟩; apply St.stepB (w0 := w) (hb := hb3) (hr := hr3); (focus (with_reducible repeat (first | exact S2.out | apply St.lay | apply St.drew | apply St.drewN))); intro S3; (try simp only [sz_alloc, sz_drew, sz_drewN] at S3); clear hr3 hb3 S2; (try clear C2); have C3 := S3.out.facts; simp only [facts, apart, cellsAt, Nat.zero_add, Nat.reduceAdd, and_true] at C3)
      | (go_at_call 52; replace S1 := S1; refine (ref_Of y hy _).mono ?_; rintro e w2 ⟨A2, c2, rfl, hr2, hb2⟩; apply St.stepB (w0 := w) (hb := hb2) (hr := hr2); (focus (with_reducible repeat (first | exact S1.out | apply St.lay | apply St.drew | apply St.drewN))); intro S2; (try simp only [sz_alloc, sz_drew, sz_drewN] at S2); clear hr2 hb2 S1; (try clear C1); have C2 := S2.out.facts; simp only [facts, apart, cellsAt, Nat.zero_add, Nat.reduceAdd, and_true] at C2)
      | (go_at_call 52; replace S0 := S0; refine (ref_Of x hx _).mono ?_; rintro e w1 ⟨A1, c1, rfl, hr1, hb1⟩; apply St.stepB (w0 := w) (hb := hb1) (hr := hr1); (focus (with_reducible repeat (first | exact S0.out | apply St.lay | apply St.drew | apply St.drewN))); intro S1; (try simp only [sz_alloc, sz_drew, sz_drewN] at S1); clear hr1 hb1 S0; (try clear C0); have C1 := S1.out.facts; simp only [facts, apart, cellsAt, Nat.zero_add, Nat.reduceAdd, and_true] at C1))
    have HBf := S5.out.bl
    go_ret
    exact ⟨rfl, (by repeat (first | exact Below.refl _ _ | assumption | refine bl_alloc ?_ _ | refine bl_drewN ?_ _ | refine bl_drew ?_ | refine bl_set ?_ (by first | (simp; done) | (simp; omega) | (dsimp only; omega)) _ | refine bl_then ?_ (by assumption)))⟩

set_option maxRecDepth 100000 in
set_option maxHeartbeats 4000000 in
theorem root_Mean (x y : Int) (hx : I64 x) (hy : I64 y) (w : World) (hg : GN w) :
    Calls Tryd.prog 58 #[.int .i64 x, .int .i64 y] w fun e w' => e = .returned (.int .i64 (mn x y)) ∧ Below w.heap.size w w' := by
  by_cases h : x < 0 ∨ y < 0
  · have e : mn x y = 0 := by unfold mn; rw [if_pos h]
    rw [e]
    rcases Decidable.em (x < 0) with h1 | h1
    · go_enter Tryd.func58, Tryd.ntmps58
      go_wp2
      go_ret
      exact ⟨rfl, (by repeat (first | exact Below.refl _ _ | assumption | refine bl_alloc ?_ _ | refine bl_drewN ?_ _ | refine bl_drew ?_ | refine bl_set ?_ (by first | (simp; done) | (simp; omega) | (dsimp only; omega)) _ | refine bl_then ?_ (by assumption)))⟩
    · have h2 : y < 0 := h.resolve_left h1
      go_enter Tryd.func58, Tryd.ntmps58
      go_wp2
      go_ret
      exact ⟨rfl, (by repeat (first | exact Below.refl _ _ | assumption | refine bl_alloc ?_ _ | refine bl_drewN ?_ _ | refine bl_drew ?_ | refine bl_set ?_ (by first | (simp; done) | (simp; omega) | (dsimp only; omega)) _ | refine bl_then ?_ (by assumption)))⟩
  · have e : mn x y = rt (x * y) := by unfold mn; rw [if_neg h]
    have hp := prod0 hx hy h
    have hm := mn_i64 hx hy
    rw [e] at hm ⊢
    have hW : W128 (x * y) := prod_W128 hx hy
    have HP := Asd.mk hp
    have HW := Asd.mk hW
    have HE := Asd.mk (show wrap64 (rt (x * y)) = rt (x * y) by unfold wrap64; omega)
    have HG := Asd.mk hg
    have h1 : 0 ≤ x := by omega
    have h2 : 0 ≤ y := by omega
    have S0 := Asd.mk (St.refl w)
    clear e h hp hm hW hg
    go_enter Tryd.func58, Tryd.ntmps58
    go_wp2_with (first
      | (go_at_call 94; replace S1 := S1; refine (root_Of (x * y) HW.out HP.out.1 _).mono ?_; rintro e w2 ⟨rfl, hb2⟩; apply St.step (w0 := w) (hb := hb2); (focus (with_reducible repeat (first | exact S1.out | apply St.lay | apply St.drew | apply St.drewN))); intro S2; (try simp only [sz_alloc, sz_drew, sz_drewN] at S2); clear hb2 S1; (try clear C1); have C2 := S2.out.facts; simp only [facts, apart, cellsAt, Nat.zero_add, Nat.reduceAdd, and_true] at C2)
      | (go_at_call 72; replace S0 := S0; refine (wide_Mul x y hx hy _ (by exact HG.out.below (by with_reducible repeat (first | exact S0.out.bl | refine bl_alloc ?_ _ | refine bl_drewN ?_ _ | refine bl_drew ?_)))).mono ?_; rintro e w1 ⟨rfl, hb1⟩; apply St.step (w0 := w) (hb := hb1); (focus (with_reducible repeat (first | exact S0.out | apply St.lay | apply St.drew | apply St.drewN))); intro S1; (try simp only [sz_alloc, sz_drew, sz_drewN] at S1); clear hb1 S0; (try clear C0); have C1 := S1.out.facts; simp only [facts, apart, cellsAt, Nat.zero_add, Nat.reduceAdd, and_true] at C1))
    have HBf := S2.out.bl
    go_ret
    exact ⟨ret_int HE.out, (by repeat (first | exact Below.refl _ _ | assumption | refine bl_alloc ?_ _ | refine bl_drewN ?_ _ | refine bl_drew ?_ | refine bl_set ?_ (by first | (simp; done) | (simp; omega) | (dsimp only; omega)) _ | refine bl_then ?_ (by assumption)))⟩

end Go.Proofs.YtlinfennhfphiaaDoor
