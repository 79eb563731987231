/- Walks of the laws of layer 12 (joseph), by plans: JosephPart. -/
import Derived.Test.YtfbhcaocfajjpaaDoorJe
namespace Go.Proofs.YtfbhcaocfajjpaaDoor
open Go.RowKit
set_option linter.unusedSimpArgs false
set_option linter.unusedVariables false
theorem jp_near {x : Int} : -(pow2 40) ≤ 2 * (x - evP x (pow2 40) * pow2 40) ∧ 2 * (x - evP x (pow2 40) * pow2 40) ≤ pow2 40 := by
  have hd := pow2_pos 40
  have r0 := Int.emod_nonneg x (show pow2 40 ≠ 0 by omega)
  have r1 := Int.emod_lt_of_pos x hd
  have e := Int.mul_ediv_add_emod x (pow2 40)
  rw [Int.mul_comm] at e
  unfold evP
  split
  · rw [Int.add_mul, Int.one_mul]
    generalize x / pow2 40 * pow2 40 = y at *
    omega
  · generalize x / pow2 40 * pow2 40 = y at *
    omega
theorem jp_40 : pow2 40 = 1099511627776 := by decide
/-- The part of the entry 00, in whole numbers: what rounding leaves. -/
theorem jp_bounds {a n k r c t : Int} (ha : 0 ≤ a ∧ a ≤ 36028797018963968) (hn : 0 ≤ n ∧ n ≤ 36028797018963968) (hk : 0 ≤ k ∧ k ≤ 1099511627776)
    (hr : -1099511627776 ≤ 2 * (k * a + k * a - r * 1099511627776) ∧ 2 * (k * a + k * a - r * 1099511627776) ≤ 1099511627776)
    (hc : -1099511627776 ≤ 2 * (k * k - c * 1099511627776) ∧ 2 * (k * k - c * 1099511627776) ≤ 1099511627776)
    (ht : -1099511627776 ≤ 2 * (c * (a + n) - t * 1099511627776) ∧ 2 * (c * (a + n) - t * 1099511627776) ≤ 1099511627776) :
    (0 ≤ r ∧ r ≤ 72057594037927937) ∧ (0 ≤ c ∧ c ≤ 1099511627776) ∧ (0 ≤ t ∧ t ≤ 72057594037927936) ∧ -((a + n) / 1099511627776 + 3) ≤ a - r + t ∧ a - r + t ≤ max a n + ((a + n) / 1099511627776 + 3) := by
  have ka0 := Int.mul_nonneg hk.1 ha.1
  have ka1 := Int.mul_le_mul_of_nonneg_right hk.2 ha.1
  have kk0 := Int.mul_nonneg hk.1 hk.1
  have kk1 := Int.mul_le_mul_of_nonneg_right hk.2 hk.1
  have C0 : 0 ≤ c := by omega
  have C1 : c ≤ 1099511627776 := by omega
  have s0 : 0 ≤ a + n := by omega
  have cs0 := Int.mul_nonneg C0 s0
  have cs1 := Int.mul_le_mul_of_nonneg_right C1 s0
  refine ⟨by omega, ⟨C0, C1⟩, by omega, ?_⟩
  -- the error of c, times s
  have e1 := Int.mul_le_mul_of_nonneg_right hc.1 s0
  have e2 := Int.mul_le_mul_of_nonneg_right hc.2 s0
  have x1 : 2 * (k * k - c * 1099511627776) * (a + n) = 2 * (k * k * (a + n)) - 2 * (c * (a + n) * 1099511627776) := by grind
  rw [x1] at e1 e2
  -- the squares
  have d0 : 0 ≤ 1099511627776 - k := by omega
  have q1 : 0 ≤ a * ((1099511627776 - k) * (1099511627776 - k)) := Int.mul_nonneg ha.1 (Int.mul_nonneg d0 d0)
  have q2 : 0 ≤ n * (k * k) := Int.mul_nonneg hn.1 kk0
  have M1 : a ≤ max a n := by omega
  have M2 : n ≤ max a n := by omega
  have q3 : a * ((1099511627776 - k) * (1099511627776 - k)) ≤ max a n * ((1099511627776 - k) * (1099511627776 - k)) := Int.mul_le_mul_of_nonneg_right M1 (Int.mul_nonneg d0 d0)
  have q4 : n * (k * k) ≤ max a n * (k * k) := Int.mul_le_mul_of_nonneg_right M2 kk0
  have q5 : 0 ≤ max a n * (2 * (k * (1099511627776 - k))) := Int.mul_nonneg (by omega) (by have := Int.mul_nonneg hk.1 d0; omega)
  generalize max a n = M at *
  have x2 : a * ((1099511627776 - k) * (1099511627776 - k)) + n * (k * k) = a * 1208925819614629174706176 - 2 * (k * a) * 1099511627776 + k * k * (a + n) := by grind
  have x3 : M * ((1099511627776 - k) * (1099511627776 - k)) + M * (k * k) + M * (2 * (k * (1099511627776 - k))) = M * 1208925819614629174706176 := by grind
  generalize a * ((1099511627776 - k) * (1099511627776 - k)) = X1 at *
  generalize n * (k * k) = X2 at *
  generalize M * ((1099511627776 - k) * (1099511627776 - k)) = X3 at *
  generalize M * (k * k) = X4 at *
  generalize M * (2 * (k * (1099511627776 - k))) = X5 at *
  generalize k * k * (a + n) = X6 at *
  generalize c * (a + n) = X7 at *
  generalize k * a = X8 at *
  have y1 : 0 ≤ (a + n) / 1099511627776 := by omega
  omega
theorem jp_doubt {a n k : Int} (ha : 0 ≤ a ∧ a ≤ 36028797018963968) (hn : 0 ≤ n ∧ n ≤ 36028797018963968) (hk : 0 ≤ k ∧ k ≤ 1099511627776) :
    jdE (v6 a 0 0 0 0 0) (v3 k 0 0) (a + n) = 0 ∧ -((a + n) / 1099511627776 + 3) ≤ jdV (v6 a 0 0 0 0 0) (v3 k 0 0) (a + n) 0 ∧ jdV (v6 a 0 0 0 0 0) (v3 k 0 0) (a + n) 0 ≤ max a n + ((a + n) / 1099511627776 + 3) ∧
      jdV (v6 a 0 0 0 0 0) (v3 k 0 0) (a + n) 1 = 0 ∧ jdV (v6 a 0 0 0 0 0) (v3 k 0 0) (a + n) 5 = 0 := by
  have fb : ∀ {z : Int}, -288230376151711744 ≤ z ∧ z ≤ 288230376151711744 → fitB z = true := fun h => fitB_true.2 h
  have f0 : fitB 0 = true := by decide
  have hr := jp_near (x := k * a + k * a)
  have hc := jp_near (x := k * k)
  have ht := jp_near (x := mulZ k k * (a + n))
  have eR : crZ k a k a = evP (k * a + k * a) (pow2 40) := rfl
  have eC : mulZ k k = evP (k * k) (pow2 40) := rfl
  have eT : mulZ (mulZ k k) (a + n) = evP (mulZ k k * (a + n)) (pow2 40) := rfl
  rw [← eR] at hr
  rw [← eC] at hc
  rw [← eT] at ht
  rw [jp_40] at hr hc ht
  obtain ⟨B1, B2, B3, L, U⟩ := jp_bounds ha hn hk hr hc ht
  have y1 : (a + n) / 1099511627776 ≤ 65536 := by omega
  have M0 : max a n ≤ 36028797018963968 := by omega
  have B : jdB (v6 a 0 0 0 0 0) (v3 k 0 0) (a + n) = true := by
    have g1 : fits6 (v6 a 0 0 0 0 0) = true := by
      show (true && fitB a && fitB 0 && fitB 0 && fitB 0 && fitB 0 && fitB 0) = true; rw [fb (show -288230376151711744 ≤ a ∧ a ≤ 288230376151711744 by omega), f0]; rfl
    have g2 : fits3 (v3 k 0 0) = true := by
      unfold fits3; simp only [v3, fb (show -288230376151711744 ≤ k ∧ k ≤ 288230376151711744 by omega), f0]; rfl
    unfold jdB; rw [g1, g2, fb (show -288230376151711744 ≤ a + n ∧ a + n ≤ 288230376151711744 by omega)]; rfl
  have z1 : ∀ y, crZ k 0 0 y = 0 := fun y => by unfold crZ; rw [Int.mul_zero, Int.zero_mul]; decide
  have z2 : crZ 0 0 0 0 = 0 := by decide
  have z3 : mulZ k 0 = 0 := by unfold mulZ; rw [Int.mul_zero]; decide
  have z4 : ∀ y, mulZ 0 y = 0 := fun y => by unfold mulZ; rw [Int.zero_mul]; decide
  have o0 : jo (v6 a 0 0 0 0 0) (v3 k 0 0) (a + n) 0 0 0 = true := by
    refine jo_yes ?_ ?_ ?_
    · show fitB (crZ k a k a) = true; exact fb (by omega)
    · show smE k k (a + n) = 0; exact smJ2 (fb (by omega)) (fb (by omega))
    · show saE a (crZ k a k a) (mulZ (mulZ k k) (a + n)) = 0; exact saJ2 (fb (by omega)) (fb (by omega))
  have o1 : ∀ y : Int, (fitB (crZ k 0 0 y) && (smE k 0 (a + n) == 0 && saE 0 (crZ k 0 0 y) (mulZ (mulZ k 0) (a + n)) == 0)) = true := fun y => by
    have e1 : smE k 0 (a + n) = 0 := smJ2 (by rw [z3]; exact f0) (by rw [z3, z4]; exact f0)
    rw [z1, z3, z4, e1]; decide
  have o2 : (fitB (crZ 0 0 0 0) && (smE 0 0 (a + n) == 0 && saE 0 (crZ 0 0 0 0) (mulZ (mulZ 0 0) (a + n)) == 0)) = true := by
    have e1 : smE 0 0 (a + n) = 0 := smJ2 (by decide) (by rw [z4, z4]; exact f0)
    rw [z2, z4, z4, e1]; decide
  have O : jdO (v6 a 0 0 0 0 0) (v3 k 0 0) (a + n) = true := by
    have p1 : jo (v6 a 0 0 0 0 0) (v3 k 0 0) (a + n) 0 1 1 = true := o1 _
    have p2 : jo (v6 a 0 0 0 0 0) (v3 k 0 0) (a + n) 0 2 2 = true := o1 _
    have p3 : jo (v6 a 0 0 0 0 0) (v3 k 0 0) (a + n) 1 1 3 = true := o2
    have p4 : jo (v6 a 0 0 0 0 0) (v3 k 0 0) (a + n) 1 2 4 = true := o2
    have p5 : jo (v6 a 0 0 0 0 0) (v3 k 0 0) (a + n) 2 2 5 = true := o2
    unfold jdO; rw [o0, p1, p2, p3, p4, p5]; rfl
  have F := jd_3 B O
  have v0 : jv (v6 a 0 0 0 0 0) (v3 k 0 0) (a + n) 0 0 0 = a - crZ k a k a + mulZ (mulZ k k) (a + n) := rfl
  have v1 : jv (v6 a 0 0 0 0 0) (v3 k 0 0) (a + n) 0 1 1 = 0 := by
    show 0 - crZ k 0 0 a + mulZ (mulZ k 0) (a + n) = 0
    rw [z1, z3, z4]; rfl
  have v5 : jv (v6 a 0 0 0 0 0) (v3 k 0 0) (a + n) 2 2 5 = 0 := by
    show 0 - crZ 0 0 0 0 + mulZ (mulZ 0 0) (a + n) = 0
    rw [z2, z4, z4]; rfl
  refine ⟨F.1, ?_, ?_, ?_, ?_⟩
  · rw [F.2]; show _ ≤ jv _ _ _ 0 0 0; rw [v0]; exact L
  · rw [F.2]; show jv _ _ _ 0 0 0 ≤ _; rw [v0]; exact U
  · rw [F.2]; exact v1
  · rw [F.2]; exact v5
theorem jp_shr (x : Int) : Int.fdiv x (2 ^ 40) = x / 1099511627776 := Int.fdiv_eq_ediv_of_nonneg _ (by decide)
set_option maxRecDepth 1000000 in
set_option maxHeartbeats 8000000 in
theorem law_JosephPart_plan (a n k : Int) (w : World) (R : Ending → World → Prop) (hG : St w w [] []) (hE : Ex w [])
    (h : ∀ u1 : Int, u1 = (if 36028797018963968 < a then 36028797018963968 else a) → (∀ u2 : Int, u2 = (if 0 > u1 then 0 else u1) → (∀ u3 : Int, u3 = (if 36028797018963968 < n then 36028797018963968 else n) → (∀ u4 : Int, u4 = (if 0 > u3 then 0 else u3) → (∀ u5 : Int, u5 = (if 1099511627776 < k then 1099511627776 else k) → (∀ u6 : Int, u6 = (if 0 > u5 then 0 else u5) → (Value.int .i64 (IntKind.i64.wrap (u2 + u4)) = .int .i64 (u2 + u4) ∧ CallV Tryd.prog w [] [] 25 #[.agg #[.int .i64 u2, .int .i64 0, .int .i64 0, .int .i64 0, .int .i64 0, .int .i64 0], .agg #[.int .i64 u6, .int .i64 0, .int .i64 0], .int .i64 (u2 + u4)] (.tuple #[.agg #[.int .i64 (jdV (v6 u2 0 0 0 0 0) (v3 u6 0 0) (u2 + u4) 0), .int .i64 (jdV (v6 u2 0 0 0 0 0) (v3 u6 0 0) (u2 + u4) 1), .int .i64 (jdV (v6 u2 0 0 0 0 0) (v3 u6 0 0) (u2 + u4) 2), .int .i64 (jdV (v6 u2 0 0 0 0 0) (v3 u6 0 0) (u2 + u4) 3), .int .i64 (jdV (v6 u2 0 0 0 0 0) (v3 u6 0 0) (u2 + u4) 4), .int .i64 (jdV (v6 u2 0 0 0 0 0) (v3 u6 0 0) (u2 + u4) 5)], .int .i64 (jdE (v6 u2 0 0 0 0 0) (v3 u6 0 0) (u2 + u4))]) ∧ (∀ r7 : Nat, (r7 = r7 ∧ (r7 = r7 ∧ (r7 = r7 ∧ (r7 = r7 ∧ (r7 = r7 ∧ (r7 = r7 ∧ (True))))))) ∧ Value.int .i64 (IntKind.i64.wrap (u2 + u4)) = .int .i64 (u2 + u4) ∧ Value.int .i64 (Int.fdiv (u2 + u4) (2 ^ 40)) = .int .i64 ((u2 + u4) / 1099511627776) ∧ Value.int .i64 (IntKind.i64.wrap (((u2 + u4) / 1099511627776) + 3)) = .int .i64 (((u2 + u4) / 1099511627776) + 3) ∧ CallV Tryd.prog w [(r7, [.int .i64 (jdV (v6 u2 0 0 0 0 0) (v3 u6 0 0) (u2 + u4) 0), .int .i64 (jdV (v6 u2 0 0 0 0 0) (v3 u6 0 0) (u2 + u4) 1), .int .i64 (jdV (v6 u2 0 0 0 0 0) (v3 u6 0 0) (u2 + u4) 2), .int .i64 (jdV (v6 u2 0 0 0 0 0) (v3 u6 0 0) (u2 + u4) 3), .int .i64 (jdV (v6 u2 0 0 0 0 0) (v3 u6 0 0) (u2 + u4) 4), .int .i64 (jdV (v6 u2 0 0 0 0 0) (v3 u6 0 0) (u2 + u4) 5)])] [] 26 #[] (.bool true) ∧ Value.bool ((jdE (v6 u2 0 0 0 0 0) (v3 u6 0 0) (u2 + u4)) == 0) = .bool true ∧ r7 = r7 ∧ Value.int .i64 (IntKind.i64.wrap (0 - (((u2 + u4) / 1099511627776) + 3))) = .int .i64 (0 - (((u2 + u4) / 1099511627776) + 3)) ∧ Value.bool (decide ((jdV (v6 u2 0 0 0 0 0) (v3 u6 0 0) (u2 + u4) 0) ≥ (0 - (((u2 + u4) / 1099511627776) + 3)))) = .bool true ∧ r7 = r7 ∧ (∀ u8 : Int, u8 = (if u4 > u2 then u4 else u2) → (Value.int .i64 (IntKind.i64.wrap (u8 + (((u2 + u4) / 1099511627776) + 3))) = .int .i64 (u8 + (((u2 + u4) / 1099511627776) + 3)) ∧ Value.bool (decide ((jdV (v6 u2 0 0 0 0 0) (v3 u6 0 0) (u2 + u4) 0) ≤ (u8 + (((u2 + u4) / 1099511627776) + 3)))) = .bool true ∧ r7 = r7 ∧ Value.bool ((jdV (v6 u2 0 0 0 0 0) (v3 u6 0 0) (u2 + u4) 1) == 0) = .bool true ∧ r7 = r7 ∧ (True) ∧ (LeafV R w [(r7, [.int .i64 (jdV (v6 u2 0 0 0 0 0) (v3 u6 0 0) (u2 + u4) 0), .int .i64 (jdV (v6 u2 0 0 0 0 0) (v3 u6 0 0) (u2 + u4) 1), .int .i64 (jdV (v6 u2 0 0 0 0 0) (v3 u6 0 0) (u2 + u4) 2), .int .i64 (jdV (v6 u2 0 0 0 0 0) (v3 u6 0 0) (u2 + u4) 3), .int .i64 (jdV (v6 u2 0 0 0 0 0) (v3 u6 0 0) (u2 + u4) 4), .int .i64 (jdV (v6 u2 0 0 0 0 0) (v3 u6 0 0) (u2 + u4) 5)])] [] (.bool ((jdV (v6 u2 0 0 0 0 0) (v3 u6 0 0) (u2 + u4) 5) == 0))))))))))))) : Calls Tryd.prog 7 #[.int .i64 a, .int .i64 n, .int .i64 k] w R :=
  calls_of_plan (f := 7) (es := []) (c := Tryd.f7.body.getD .skip) (tmps := #[.int .i64 a, .int .i64 n, .int .i64 k, undef, undef, undef, undef, undef, undef, undef, undef, undef, undef, undef, undef, undef, undef, undef, undef, undef, undef, undef, undef, undef, undef, undef, undef, undef, undef, undef, undef, undef, undef, undef, undef, undef, undef, undef, undef, undef, undef, undef, undef, undef, undef, undef, undef, undef, undef, undef, undef, undef, undef, undef, undef, undef, undef, undef, undef, undef, undef, undef, undef, undef, undef, undef, undef])
    (.s [.c, .c, .v, .c, .c, .c, .v, .v] (.gen 11 (fun u1 => .s [.v] (.gen 12 (fun u2 => .s [.v, .v] (.gen 14 (fun u3 => .s [.v] (.gen 15 (fun u4 => .s [.v, .v] (.gen 17 (fun u5 => .s [.v] (.gen 18 (fun u6 => .s [.v, .v, .v, .c, .c, .c, .v, .v, .v, .v, .v, .v, .v, .setv 26 (.int .i64 (u2 + u4)), .call (.tuple #[.agg #[.int .i64 (jdV (v6 u2 0 0 0 0 0) (v3 u6 0 0) (u2 + u4) 0), .int .i64 (jdV (v6 u2 0 0 0 0 0) (v3 u6 0 0) (u2 + u4) 1), .int .i64 (jdV (v6 u2 0 0 0 0 0) (v3 u6 0 0) (u2 + u4) 2), .int .i64 (jdV (v6 u2 0 0 0 0 0) (v3 u6 0 0) (u2 + u4) 3), .int .i64 (jdV (v6 u2 0 0 0 0 0) (v3 u6 0 0) (u2 + u4) 4), .int .i64 (jdV (v6 u2 0 0 0 0 0) (v3 u6 0 0) (u2 + u4) 5)], .int .i64 (jdE (v6 u2 0 0 0 0 0) (v3 u6 0 0) (u2 + u4))]), .v, .v, .v] (.new (fun r7 => .s [.put 0, .v, .c, .c, .c, .v, .v, .v, .setv 32 (.int .i64 (u2 + u4)), .v, .setv 33 (.int .i64 ((u2 + u4) / 1099511627776)), .v, .setv 34 (.int .i64 (((u2 + u4) / 1099511627776) + 3)), .v, .c, .c, .c, .call (.bool true), .v, .v, .v, .v, .v, .setv 40 (.bool true), .v, .own 0, .v, .v, .setv 44 (.int .i64 (0 - (((u2 + u4) / 1099511627776) + 3))), .v, .v, .v, .setv 47 (.bool true), .v, .own 0, .v, .v, .v] (.gen 52 (fun u8 => .s [.v, .v, .setv 54 (.int .i64 (u8 + (((u2 + u4) / 1099511627776) + 3))), .v, .v, .v, .setv 57 (.bool true), .v, .own 0, .v, .v, .v, .setv 62 (.bool true), .v, .own 0, .v, .v, .v, .c] (.ret []))))))))))))))))))
    (by kernel_rfl) hG hE Tryd.func7 (by kernel_rfl) (by kernel_rfl) (Eq.mpr (by kernel_rfl) h)
set_option maxRecDepth 1000000 in
set_option maxHeartbeats 8000000 in
theorem law_JosephPart (a n k : Int) (ha : I64 a) (hn : I64 n) (hk : I64 k) (w : World) (hg : GN w) (hp : GP w) : Calls Tryd.prog 7 #[.int .i64 a, .int .i64 n, .int .i64 k] w (fun e w' => e = .returned (.bool true) ∧ Below w.heap.size w w') := by
  have za := ha; have zn := hn; have zk := hk; unfold I64 at za zn zk
  refine law_JosephPart_plan a n k w _ (St.refl w) Ex.nil ?_
  intro u1 eu1
  rw [minI] at eu1
  intro u2 eu2
  rw [maxI] at eu2
  intro u3 eu3
  rw [minI] at eu3
  intro u4 eu4
  rw [maxI] at eu4
  intro u5 eu5
  rw [minI] at eu5
  intro u6 eu6
  rw [maxI] at eu6
  refine ⟨congrArg (Value.int .i64) (wrapI (by omega)), (CallV.be fun W hS => joseph_Doubt (v6 u2 0 0 0 0 0) (v3 u6 0 0) (u2 + u4) (v6_all (p := I64) (by unfold I64; omega) (by decide) (by decide) (by decide) (by decide) (by decide)) (v3_all (p := I64) (by unfold I64; omega) (by decide) (by decide)) (by unfold I64; omega) W (hg.below hS.bl) (hp.below hS.bl)), ?_⟩
  intro r7
  refine ⟨⟨rfl, rfl, rfl, rfl, rfl, rfl, trivial⟩, congrArg (Value.int .i64) (wrapI (by omega)), congrArg (Value.int .i64) (jp_shr (u2 + u4)), congrArg (Value.int .i64) (wrapI (by omega)), (CallV.be fun W hS => law12_fixed W (hg.below hS.bl) (hp.below hS.bl)), congrArg Value.bool (beq_iff_eq.2 (jp_doubt (a := u2) (n := u4) (k := u6) (by omega) (by omega) (by omega)).1), rfl, congrArg (Value.int .i64) (wrapI (by omega)), congrArg Value.bool (decide_eq_true (by have J := (jp_doubt (a := u2) (n := u4) (k := u6) (by omega) (by omega) (by omega)).2.1; omega)), rfl, ?_⟩
  intro u8 eu8
  rw [maxI] at eu8
  refine ⟨congrArg (Value.int .i64) (wrapI (by omega)), congrArg Value.bool (decide_eq_true (by have J := (jp_doubt (a := u2) (n := u4) (k := u6) (by omega) (by omega) (by omega)).2.2.1; omega)), rfl, congrArg Value.bool (beq_iff_eq.2 (jp_doubt (a := u2) (n := u4) (k := u6) (by omega) (by omega) (by omega)).2.2.2.1), rfl, trivial, ?_⟩
  exact fun W hS => ⟨congrArg (fun q => Ending.returned (Value.bool q)) (beq_iff_eq.2 (jp_doubt (a := u2) (n := u4) (k := u6) (by omega) (by omega) (by omega)).2.2.2.2), hS.bl⟩

end Go.Proofs.YtfbhcaocfajjpaaDoor
