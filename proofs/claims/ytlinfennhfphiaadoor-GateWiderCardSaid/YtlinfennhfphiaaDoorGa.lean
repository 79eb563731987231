/- Walks of layer 10 (gate) and of its reference, by plans. -/
import Derived.Test.YtlinfennhfphiaaDoorFc
namespace Go.Proofs.YtlinfennhfphiaaDoor
open Go.RowKit
set_option linter.unusedSimpArgs false
set_option linter.unusedVariables false
def rightB (y s : Int) : Bool := fitB y && (fitB s && decide (1 ≤ s))
def upZ (y s : Int) : Int := -((-(y * y)) / (s * pow2 40))
def passB (y s g : Int) : Bool := rightB y s && (decide (0 ≤ g) && (decide (g ≤ 1000) && decide (y * y ≤ g * s * pow2 40)))
def leastQ (y s : Int) : Int := min (upZ y s) 1001
def leastV (y s : Int) : Int := if rightB y s = true then (if leastQ y s > 1000 then 0 else leastQ y s) else 0
def leastE (y s : Int) : Int := if rightB y s = true then (if leastQ y s > 1000 then 2 else 0) else 1
def pr2 (a b : Int) : Nat → Int
  | 0 => a
  | _ => b
theorem right_true {y s : Int} (h : rightB y s = true) : fitB y = true ∧ fitB s = true ∧ 1 ≤ s := by
  unfold rightB at h; simp only [Bool.and_eq_true, decide_eq_true_eq] at h; exact h
theorem right_mk {y s : Int} (h1 : fitB y = true) (h2 : fitB s = true) (h3 : 1 ≤ s) : rightB y s = true := by
  unfold rightB; simp only [Bool.and_eq_true, decide_eq_true_eq]; exact ⟨h1, h2, h3⟩
theorem sp_pos {s : Int} (h : 1 ≤ s) : 0 < s * pow2 40 := Int.mul_pos (by omega) (pow2_pos 40)
theorem upZ_le {y s t : Int} (hs : 1 ≤ s) : upZ y s ≤ t ↔ y * y ≤ t * s * pow2 40 := by
  have h := sp_pos hs
  unfold upZ
  rw [Int.mul_assoc t]
  have k := Int.le_ediv_iff_mul_le (a := -t) (b := -(y * y)) h
  rw [Int.neg_mul] at k
  constructor
  · intro q; have := k.1 (by omega); omega
  · intro q; have := k.2 (by omega); omega
theorem upZ_nonneg {y s : Int} (hs : 1 ≤ s) : 0 ≤ upZ y s := by
  have h := sp_pos hs
  have h2 : 0 ≤ y * y := by
    rcases Int.le_total 0 y with q | q
    · exact Int.mul_nonneg q q
    · have := Int.mul_nonneg (a := -y) (b := -y) (by omega) (by omega); rwa [Int.neg_mul_neg] at this
  unfold upZ
  have k : (-(y * y)) / (s * pow2 40) ≤ 0 := by
    have := Int.ediv_le_ediv h (show -(y * y) ≤ 0 by omega)
    rwa [Int.zero_ediv] at this
  omega
theorem leastQ_in {y s : Int} (hs : 1 ≤ s) : 0 ≤ leastQ y s ∧ leastQ y s ≤ 1001 := by have := upZ_nonneg (y := y) hs; unfold leastQ; omega
theorem pass_mid {y s g : Int} (h : rightB y s = true) (h0 : 0 ≤ g) (h1 : g ≤ 1000) : (passB y s g = true → leastQ y s ≤ g) ∧ (passB y s g = false → g < leastQ y s) := by
  have hs := (right_true h).2.2
  have k := upZ_le (y := y) (t := g) hs
  unfold passB leastQ
  rw [h, decide_eq_true h0, decide_eq_true h1, Bool.true_and, Bool.true_and, Bool.true_and, decide_eq_true_eq, decide_eq_false_iff_not]
  constructor
  · intro q; have := k.2 q; omega
  · intro q; have : ¬ upZ y s ≤ g := fun r => q (k.1 r)
    omega
theorem gs_fit {g s : Int} (h0 : 0 ≤ g) (h1 : g ≤ 1000) (hs : fitB s = true) (h2 : 1 ≤ s) : W128 (g * s * pow2 40) := by
  have k := fitB_true.1 hs
  have a := Int.mul_nonneg h0 (show 0 ≤ s by omega)
  have b := Int.mul_le_mul h1 k.2 (by omega) (by omega)
  rw [pow2_40]; unfold W128; omega
theorem wide_Up_fit (z : Int) (hz : W128 z) (h : W128 (z * pow2 40)) (w : World) (hg : GN w) : Calls Tryd.prog 71 #[.agg #[.int .i64 (whi z), .int .u64 (wlo z)], .int .i64 40] w fun e w' => e = .returned (.tuple #[.agg #[.int .i64 (whi (z * pow2 40)), .int .u64 (wlo (z * pow2 40))], .int .i64 0]) ∧ Below w.heap.size w w' := by
  have k := wide_Up_loop z 40 (by decide) hz w hg
  have e : up z 40 = z * pow2 40 := rfl
  rw [e, (fitW_of h).1, (fitW_of h).2] at k; exact k
theorem cmpI_le (a b : Int) : decide (cmpI a b ≤ 0) = decide (a ≤ b) := by
  unfold cmpI; (repeat' split) <;> simp <;> omega
theorem cmpZ_le (a b : Int) : decide (cmpZ a b ≤ 0) = decide (a ≤ b) := cmpI_le a b
theorem cmpZ_gtb (a b : Int) : decide (cmpZ a b > 0) = decide (a > b) := by
  unfold cmpZ; (repeat' split) <;> simp <;> omega
theorem pos_one (s : Int) : decide (s > 0) = decide (1 ≤ s) := by
  by_cases h : 1 ≤ s
  · rw [decide_eq_true h, decide_eq_true (by omega)]
  · rw [decide_eq_false h, decide_eq_false (by omega)]
theorem pass_val {y s g : Int} (h : rightB y s = true) (h0 : 0 ≤ g) (h1 : g ≤ 1000) : passB y s g = decide (y * y ≤ g * s * pow2 40) := by
  unfold passB; rw [h, decide_eq_true h0, decide_eq_true h1]; rfl
theorem pass_no1 {y s g : Int} (h : rightB y s = false) : passB y s g = false := by unfold passB; rw [h]; rfl
theorem pass_no2 {y s g : Int} (h : g < 0) : passB y s g = false := by unfold passB; rw [decide_eq_false (show ¬ 0 ≤ g by omega)]; simp
theorem pass_no3 {y s g : Int} (h : g > 1000) : passB y s g = false := by unfold passB; rw [decide_eq_false (show ¬ g ≤ 1000 by omega)]; simp
theorem u64w {n : Int} (h : 0 ≤ n ∧ n ≤ 9223372036854775807) : IntKind.u64.wrap n = n := IntWalk.u64_in _ ⟨h.1, by omega⟩
theorem up_fl {y s : Int} (hs : 1 ≤ s) : -(fl (-(y * y)) (s * pow2 40)) = upZ y s := by
  have := sp_pos hs
  unfold fl upZ; rw [if_neg (by omega)]
theorem fitI_of {z : Int} (h0 : 0 ≤ z) (h1 : z ≤ 1000) : fitI z = z := by unfold fitI; rw [if_pos (by unfold I64; omega)]
theorem least_hi {y s : Int} (h : upZ y s > 1000) : leastQ y s > 1000 := by unfold leastQ; omega
theorem least_lo {y s : Int} (h : ¬ upZ y s > 1000) : ¬ leastQ y s > 1000 ∧ leastQ y s = upZ y s := by unfold leastQ; omega
theorem nd_fl (x : Int) {b : Int} (hb : b ≠ 0) : nd (fl x b) ≤ nd x + 1 := by
  have hk : (fl x b).natAbs ≤ x.natAbs := by
    unfold fl
    split
    · have := div_abs (a := -x) (b := -b) (by omega); rwa [Int.natAbs_neg] at this
    · exact div_abs (by omega)
  have := nd_mono hk
  omega
theorem leastV_no {y s : Int} (h : rightB y s = false) : leastV y s = 0 ∧ leastE y s = 1 := by unfold leastV leastE; rw [h]; exact ⟨rfl, rfl⟩
theorem leastV_hi {y s : Int} (h : rightB y s = true) (q : leastQ y s > 1000) : leastV y s = 0 ∧ leastE y s = 2 := by unfold leastV leastE; rw [if_pos h, if_pos h, if_pos q, if_pos q]; exact ⟨rfl, rfl⟩
theorem leastV_lo {y s : Int} (h : rightB y s = true) (q : ¬ leastQ y s > 1000) : leastV y s = leastQ y s ∧ leastE y s = 0 := by unfold leastV leastE; rw [if_pos h, if_pos h, if_neg q, if_neg q]; exact ⟨rfl, rfl⟩
set_option maxRecDepth 1000000 in
set_option maxHeartbeats 8000000 in
theorem gate_right_plan (y s : Int) (w : World) (R : Ending → World → Prop) (hG : St w w [] []) (hE : Ex w [])
    (h : CallV Tryd.prog w [] [] 61 #[.int .i64 y] (.bool (fitB y)) ∧ (((fitB y) = true → CallV Tryd.prog w [] [] 61 #[.int .i64 s] (.bool (fitB s)) ∧ (((fitB s) = true → (True) ∧ (LeafV R w [] [] (.bool (decide (s ≥ 1))))) ∧ ((fitB s) = false → (True) ∧ (LeafV R w [] [] (.bool false))))) ∧ ((fitB y) = false → (True) ∧ (LeafV R w [] [] (.bool false))))) : Calls Tryd.prog 63 #[.int .i64 y, .int .i64 s] w R :=
  calls_of_plan (f := 63) (es := []) (c := Tryd.f63.body.getD .skip) (tmps := #[.int .i64 y, .int .i64 s, undef, undef, undef, undef, undef, undef, undef, undef, undef, undef, undef, undef, undef])
    (.s [.c, .c, .v, .c, .c, .c, .v, .call (.bool (fitB y)), .v] (.split 7 (.s [.v, .call (.bool (fitB s)), .v, .v] (.split 11 (.s [.v, .v, .v, .v, .c] (.ret [])) (.s [.u, .u, .v, .v, .c] (.ret [])))) (.s [.u, .u, .v, .v, .u, .u, .v, .v, .c] (.ret []))))
    (by kernel_rfl) hG hE Tryd.func63 (by kernel_rfl) (by kernel_rfl) (Eq.mpr (by kernel_rfl) h)
set_option maxRecDepth 1000000 in
set_option maxHeartbeats 8000000 in
theorem gate_right (y s : Int)  (w : World)  : Calls Tryd.prog 63 #[.int .i64 y, .int .i64 s] w (fun e w' => e = .returned (.bool (rightB y s)) ∧ Below w.heap.size w w') := by
  refine gate_right_plan y s w _ (St.refl w) Ex.nil ?_
  refine ⟨(CallV.of fun W hS => fix_Fits y  W ), ?_⟩
  refine ⟨?_, ?_⟩
  · intro h1
    refine ⟨(CallV.of fun W hS => fix_Fits s  W ), ?_⟩
    refine ⟨?_, ?_⟩
    · intro h2
      refine ⟨trivial, ?_⟩
      exact fun W hS => ⟨by simp only [rightB, h1, h2, pos_one, ge_iff_le, Bool.true_and, Bool.false_and, Bool.and_false], hS.bl⟩
    · intro h3
      refine ⟨trivial, ?_⟩
      exact fun W hS => ⟨by simp only [rightB, h1, h3, pos_one, ge_iff_le, Bool.true_and, Bool.false_and, Bool.and_false], hS.bl⟩
  · intro h4
    refine ⟨trivial, ?_⟩
    exact fun W hS => ⟨by simp only [rightB, h4, pos_one, ge_iff_le, Bool.true_and, Bool.false_and, Bool.and_false], hS.bl⟩
set_option maxRecDepth 1000000 in
set_option maxHeartbeats 8000000 in
theorem ref10_right_plan (y s : Int) (w : World) (R : Ending → World → Prop) (hG : St w w [] []) (hE : Ex w [])
    (h : CallV Tryd.prog w [] [] 62 #[.int .i64 y] (.bool (fitB y)) ∧ (((fitB y) = true → CallV Tryd.prog w [] [] 62 #[.int .i64 s] (.bool (fitB s)) ∧ (((fitB s) = true → (True) ∧ (LeafV R w [] [] (.bool (decide (s > 0))))) ∧ ((fitB s) = false → (True) ∧ (LeafV R w [] [] (.bool false))))) ∧ ((fitB y) = false → (True) ∧ (LeafV R w [] [] (.bool false))))) : Calls Tryd.prog 66 #[.int .i64 y, .int .i64 s] w R :=
  calls_of_plan (f := 66) (es := []) (c := Tryd.f66.body.getD .skip) (tmps := #[.int .i64 y, .int .i64 s, undef, undef, undef, undef, undef, undef, undef, undef, undef, undef, undef, undef, undef])
    (.s [.c, .c, .v, .c, .c, .c, .v, .call (.bool (fitB y)), .v] (.split 7 (.s [.v, .call (.bool (fitB s)), .v, .v] (.split 11 (.s [.v, .v, .v, .v, .c] (.ret [])) (.s [.u, .u, .v, .v, .c] (.ret [])))) (.s [.u, .u, .v, .v, .u, .u, .v, .v, .c] (.ret []))))
    (by kernel_rfl) hG hE Tryd.func66 (by kernel_rfl) (by kernel_rfl) (Eq.mpr (by kernel_rfl) h)
set_option maxRecDepth 1000000 in
set_option maxHeartbeats 8000000 in
theorem ref10_right (y s : Int)  (w : World)  : Calls Tryd.prog 66 #[.int .i64 y, .int .i64 s] w (fun e w' => e = .returned (.bool (rightB y s)) ∧ Below w.heap.size w w') := by
  refine ref10_right_plan y s w _ (St.refl w) Ex.nil ?_
  refine ⟨(CallV.of fun W hS => ref2_Fits y  W ), ?_⟩
  refine ⟨?_, ?_⟩
  · intro h1
    refine ⟨(CallV.of fun W hS => ref2_Fits s  W ), ?_⟩
    refine ⟨?_, ?_⟩
    · intro h2
      refine ⟨trivial, ?_⟩
      exact fun W hS => ⟨by simp only [rightB, h1, h2, pos_one, ge_iff_le, Bool.true_and, Bool.false_and, Bool.and_false], hS.bl⟩
    · intro h3
      refine ⟨trivial, ?_⟩
      exact fun W hS => ⟨by simp only [rightB, h1, h3, pos_one, ge_iff_le, Bool.true_and, Bool.false_and, Bool.and_false], hS.bl⟩
  · intro h4
    refine ⟨trivial, ?_⟩
    exact fun W hS => ⟨by simp only [rightB, h4, pos_one, ge_iff_le, Bool.true_and, Bool.false_and, Bool.and_false], hS.bl⟩
set_option maxRecDepth 1000000 in
set_option maxHeartbeats 8000000 in
theorem gate_Pass_plan (y s g : Int) (w : World) (R : Ending → World → Prop) (hG : St w w [] []) (hE : Ex w [])
    (h : CallV Tryd.prog w [] [] 63 #[.int .i64 y, .int .i64 s] (.bool (rightB y s)) ∧ (((!(rightB y s)) = true → (True) ∧ (LeafV R w [] [] (.bool false))) ∧ ((!(rightB y s)) = false → ((decide (g < 0)) = true → (True) ∧ (LeafV R w [] [] (.bool false))) ∧ ((decide (g < 0)) = false → ((decide (g > 1000)) = true → (True) ∧ (LeafV R w [] [] (.bool false))) ∧ ((decide (g > 1000)) = false → CallV Tryd.prog w [] [] 72 #[.int .i64 g, .int .i64 s] (.agg #[.int .i64 (whi (g * s)), .int .u64 (wlo (g * s))]) ∧ CallV Tryd.prog w [] [] 71 #[.agg #[.int .i64 (whi (g * s)), .int .u64 (wlo (g * s))], .int .i64 40] (.tuple #[.agg #[.int .i64 (whi ((g * s) * pow2 40)), .int .u64 (wlo ((g * s) * pow2 40))], .int .i64 0]) ∧ (∀ r7 : Nat, (r7 = r7 ∧ (r7 = r7 ∧ (True))) ∧ r7 = r7 ∧ CallV Tryd.prog w [(r7, [.int .i64 (whi ((g * s) * pow2 40)), .int .u64 (wlo ((g * s) * pow2 40))])] [] 72 #[.int .i64 y, .int .i64 y] (.agg #[.int .i64 (whi (y * y)), .int .u64 (wlo (y * y))]) ∧ CallV Tryd.prog w [(r7, [.int .i64 (whi ((g * s) * pow2 40)), .int .u64 (wlo ((g * s) * pow2 40))])] [] 73 #[.agg #[.int .i64 (whi (y * y)), .int .u64 (wlo (y * y))], .agg #[.int .i64 (whi ((g * s) * pow2 40)), .int .u64 (wlo ((g * s) * pow2 40))]] (.int .i64 (cmpI (y * y) ((g * s) * pow2 40))) ∧ (True) ∧ (LeafV R w [(r7, [.int .i64 (whi ((g * s) * pow2 40)), .int .u64 (wlo ((g * s) * pow2 40))])] [] (.bool (decide ((cmpI (y * y) ((g * s) * pow2 40)) ≤ 0)))))))))) : Calls Tryd.prog 28 #[.int .i64 y, .int .i64 s, .int .i64 g] w R :=
  calls_of_plan (f := 28) (es := []) (c := Tryd.f28.body.getD .skip) (tmps := #[.int .i64 y, .int .i64 s, .int .i64 g, undef, undef, undef, undef, undef, undef, undef, undef, undef, undef, undef, undef, undef, undef, undef, undef, undef, undef, undef, undef, undef, undef, undef, undef, undef, undef, undef, undef, undef, undef, undef])
    (.s [.c, .c, .v, .c, .c, .c, .c, .v, .v, .call (.bool (rightB y s)), .v, .v] (.split 13 (.s [.u, .u, .v, .v, .u, .u, .v, .c, .c, .c, .c, .v, .c] (.ret [])) (.s [.v, .v, .v, .v] (.split 17 (.s [.u, .u, .v, .c, .c, .c, .c, .v, .c] (.ret [])) (.s [.v, .v, .v, .c] (.split 20 (.s [.c, .c, .c, .v, .c] (.ret [])) (.s [.c, .c, .c, .c, .v, .v, .call (.agg #[.int .i64 (whi (g * s)), .int .u64 (wlo (g * s))]), .call (.tuple #[.agg #[.int .i64 (whi ((g * s) * pow2 40)), .int .u64 (wlo ((g * s) * pow2 40))], .int .i64 0]), .v, .v, .v] (.new (fun r7 => .s [.put 0, .v, .c, .c, .d [], .at 0 false, .v, .at 1 false, .v, .at 3 false, .own 0, .at 2 true, .call (.agg #[.int .i64 (whi (y * y)), .int .u64 (wlo (y * y))]), .at 4 true, .call (.int .i64 (cmpI (y * y) ((g * s) * pow2 40))), .at 5 false, .v, .at 6 false, .v, .c] (.ret []))))))))))
    (by kernel_rfl) hG hE Tryd.func28 (by kernel_rfl) (by kernel_rfl) (Eq.mpr (by kernel_rfl) h)
set_option maxRecDepth 1000000 in
set_option maxHeartbeats 8000000 in
theorem gate_Pass (y s g : Int) (hy : I64 y) (hs : I64 s) (ht : I64 g) (w : World) (hg : GN w) : Calls Tryd.prog 28 #[.int .i64 y, .int .i64 s, .int .i64 g] w (fun e w' => e = .returned (.bool (passB y s g)) ∧ Below w.heap.size w w') := by
  refine gate_Pass_plan y s g w _ (St.refl w) Ex.nil ?_
  refine ⟨(CallV.be fun W hS => gate_right y s W), ?_⟩
  refine ⟨?_, ?_⟩
  · intro h10
    have h1 : (rightB y s) = false := by simpa using h10
    refine ⟨trivial, ?_⟩
    exact fun W hS => ⟨congrArg (fun q => Ending.returned (Value.bool q)) (pass_no1 h1).symm, hS.bl⟩
  · intro h20
    have h2 : (rightB y s) = true := by simpa using h20
    obtain ⟨hr1, hr2, hr3⟩ := right_true h2
    refine ⟨?_, ?_⟩
    · intro h3
      have h3p : g < 0 := by simpa using h3
      refine ⟨trivial, ?_⟩
      exact fun W hS => ⟨congrArg (fun q => Ending.returned (Value.bool q)) (pass_no2 h3p).symm, hS.bl⟩
    · intro h4
      have h4p : ¬ (g < 0) := by simpa using h4
      refine ⟨?_, ?_⟩
      · intro h5
        have h5p : g > 1000 := by simpa using h5
        refine ⟨trivial, ?_⟩
        exact fun W hS => ⟨congrArg (fun q => Ending.returned (Value.bool q)) (pass_no3 h5p).symm, hS.bl⟩
      · intro h6
        have h6p : ¬ (g > 1000) := by simpa using h6
        refine ⟨(CallV.be fun W hS => wide_Mul g s ht hs W (hg.below hS.bl)), (CallV.be fun W hS => wide_Up_fit (g * s) (prod_W128 ht hs) (gs_fit (by omega) (by omega) hr2 hr3) W (hg.below hS.bl)), ?_⟩
        intro r7
        refine ⟨⟨rfl, rfl, trivial⟩, rfl, (CallV.be fun W hS => wide_Mul y y hy hy W (hg.below hS.bl)), (CallV.be fun W hS => wide_Cmp (y * y) ((g * s) * pow2 40) W), trivial, ?_⟩
        exact fun W hS => ⟨congrArg (fun q => Ending.returned (Value.bool q)) ((cmpI_le _ _).trans (pass_val h2 (by omega) (by omega)).symm), hS.bl⟩
set_option maxRecDepth 1000000 in
set_option maxHeartbeats 8000000 in
theorem ref10_Pass_plan (y s g : Int) (w : World) (R : Ending → World → Prop) (hG : St w w [] []) (hE : Ex w [])
    (h : CallV Tryd.prog w [] [] 66 #[.int .i64 y, .int .i64 s] (.bool (rightB y s)) ∧ (((!(rightB y s)) = true → (True) ∧ (LeafV R w [] [] (.bool false))) ∧ ((!(rightB y s)) = false → ((decide (g < 0)) = true → (True) ∧ (LeafV R w [] [] (.bool false))) ∧ ((decide (g < 0)) = false → ((decide (g > 1000)) = true → (True) ∧ (LeafV R w [] [] (.bool false))) ∧ ((decide (g > 1000)) = false → CallB Tryd.prog w [] [] 52 #[.int .i64 g] g ∧ (∀ (A7 : Option Addr) (c8 : Nat), CallB Tryd.prog w [] [(A7, c8, g)] 52 #[.int .i64 s] s ∧ (∀ (A9 : Option Addr) (c10 : Nat), CallB Tryd.prog w [] [(A7, c8, g), (A9, c10, s)] 54 #[.agg #[.bool (sg g), .slice A7 (nd g) c8], .agg #[.bool (sg s), .slice A9 (nd s) c10]] (g * s) ∧ (∀ (A11 : Option Addr) (c12 : Nat), CallB Tryd.prog w [] [(A7, c8, g), (A9, c10, s), (A11, c12, g * s)] 67 #[.int .i64 40] (pow2 40) ∧ (∀ (A13 : Option Addr) (c14 : Nat), CallB Tryd.prog w [] [(A7, c8, g), (A9, c10, s), (A11, c12, g * s), (A13, c14, pow2 40)] 54 #[.agg #[.bool (sg (g * s)), .slice A11 (nd (g * s)) c12], .agg #[.bool (sg (pow2 40)), .slice A13 (nd (pow2 40)) c14]] ((g * s) * (pow2 40)) ∧ (∀ (A15 : Option Addr) (c16 : Nat), ∀ r17 : Nat, (r17 = r17 ∧ (r17 = r17 ∧ (True))) ∧ r17 = r17 ∧ CallB Tryd.prog w [(r17, [.bool (sg ((g * s) * (pow2 40))), .slice A15 (nd ((g * s) * (pow2 40))) c16])] [(A7, c8, g), (A9, c10, s), (A11, c12, g * s), (A13, c14, pow2 40), (A15, c16, (g * s) * (pow2 40))] 52 #[.int .i64 y] y ∧ (∀ (A18 : Option Addr) (c19 : Nat), CallB Tryd.prog w [(r17, [.bool (sg ((g * s) * (pow2 40))), .slice A15 (nd ((g * s) * (pow2 40))) c16])] [(A7, c8, g), (A9, c10, s), (A11, c12, g * s), (A13, c14, pow2 40), (A15, c16, (g * s) * (pow2 40)), (A18, c19, y)] 52 #[.int .i64 y] y ∧ (∀ (A20 : Option Addr) (c21 : Nat), CallB Tryd.prog w [(r17, [.bool (sg ((g * s) * (pow2 40))), .slice A15 (nd ((g * s) * (pow2 40))) c16])] [(A7, c8, g), (A9, c10, s), (A11, c12, g * s), (A13, c14, pow2 40), (A15, c16, (g * s) * (pow2 40)), (A18, c19, y), (A20, c21, y)] 54 #[.agg #[.bool (sg y), .slice A18 (nd y) c19], .agg #[.bool (sg y), .slice A20 (nd y) c21]] (y * y) ∧ (∀ (A22 : Option Addr) (c23 : Nat), CallV Tryd.prog w [(r17, [.bool (sg ((g * s) * (pow2 40))), .slice A15 (nd ((g * s) * (pow2 40))) c16])] [(A7, c8, g), (A9, c10, s), (A11, c12, g * s), (A13, c14, pow2 40), (A15, c16, (g * s) * (pow2 40)), (A18, c19, y), (A20, c21, y), (A22, c23, y * y)] 53 #[.agg #[.bool (sg (y * y)), .slice A22 (nd (y * y)) c23], .agg #[.bool (sg ((g * s) * (pow2 40))), .slice A15 (nd ((g * s) * (pow2 40))) c16]] (.int .i64 (cmpZ (y * y) ((g * s) * (pow2 40)))) ∧ (True) ∧ (LeafV R w [(r17, [.bool (sg ((g * s) * (pow2 40))), .slice A15 (nd ((g * s) * (pow2 40))) c16])] [(A7, c8, g), (A9, c10, s), (A11, c12, g * s), (A13, c14, pow2 40), (A15, c16, (g * s) * (pow2 40)), (A18, c19, y), (A20, c21, y), (A22, c23, y * y)] (.bool (decide ((cmpZ (y * y) ((g * s) * (pow2 40))) ≤ 0))))))))))))))))) : Calls Tryd.prog 29 #[.int .i64 y, .int .i64 s, .int .i64 g] w R :=
  calls_of_plan (f := 29) (es := []) (c := Tryd.f29.body.getD .skip) (tmps := #[.int .i64 y, .int .i64 s, .int .i64 g, undef, undef, undef, undef, undef, undef, undef, undef, undef, undef, undef, undef, undef, undef, undef, undef, undef, undef, undef, undef, undef, undef, undef, undef, undef, undef, undef, undef, undef, undef, undef, undef])
    (.s [.c, .c, .v, .c, .c, .c, .c, .v, .v, .call (.bool (rightB y s)), .v, .v] (.split 12 (.s [.u, .u, .v, .v, .u, .u, .v, .c, .c, .c, .c, .v, .c] (.ret [])) (.s [.v, .v, .v, .v] (.split 16 (.s [.u, .u, .v, .c, .c, .c, .c, .v, .c] (.ret [])) (.s [.v, .v, .v, .c] (.split 19 (.s [.c, .c, .c, .v, .c] (.ret [])) (.s [.c, .c, .c, .c, .v] (.big g (fun A7 c8 => .s [.v] (.big s (fun A9 c10 => .big (g * s) (fun A11 c12 => .big (pow2 40) (fun A13 c14 => .big ((g * s) * (pow2 40)) (fun A15 c16 => .new (fun r17 => .s [.put 0, .c, .c, .d [], .at 0 false, .v, .at 2 false, .v, .at 5 false, .own 0, .at 1 true] (.big y (fun A18 c19 => .s [.at 3 true] (.big y (fun A20 c21 => .s [.at 4 true] (.big (y * y) (fun A22 c23 => .s [.at 6 true, .call (.int .i64 (cmpZ (y * y) ((g * s) * (pow2 40)))), .at 7 false, .v, .at 8 false, .v, .c] (.ret []))))))))))))))))))))))
    (by kernel_rfl) hG hE Tryd.func29 (by kernel_rfl) (by kernel_rfl) (Eq.mpr (by kernel_rfl) h)
set_option maxRecDepth 1000000 in
set_option maxHeartbeats 8000000 in
theorem ref10_Pass (y s g : Int) (hy : I64 y) (hs : I64 s) (ht : I64 g) (w : World)  : Calls Tryd.prog 29 #[.int .i64 y, .int .i64 s, .int .i64 g] w (fun e w' => e = .returned (.bool (passB y s g)) ∧ Below w.heap.size w w') := by
  refine ref10_Pass_plan y s g w _ (St.refl w) Ex.nil ?_
  refine ⟨(CallV.be fun W hS => ref10_right y s W), ?_⟩
  refine ⟨?_, ?_⟩
  · intro h10
    have h1 : (rightB y s) = false := by simpa using h10
    refine ⟨trivial, ?_⟩
    exact fun W hS => ⟨congrArg (fun q => Ending.returned (Value.bool q)) (pass_no1 h1).symm, hS.bl⟩
  · intro h20
    have h2 : (rightB y s) = true := by simpa using h20
    obtain ⟨hr1, hr2, hr3⟩ := right_true h2
    refine ⟨?_, ?_⟩
    · intro h3
      have h3p : g < 0 := by simpa using h3
      refine ⟨trivial, ?_⟩
      exact fun W hS => ⟨congrArg (fun q => Ending.returned (Value.bool q)) (pass_no2 h3p).symm, hS.bl⟩
    · intro h4
      have h4p : ¬ (g < 0) := by simpa using h4
      refine ⟨?_, ?_⟩
      · intro h5
        have h5p : g > 1000 := by simpa using h5
        refine ⟨trivial, ?_⟩
        exact fun W hS => ⟨congrArg (fun q => Ending.returned (Value.bool q)) (pass_no3 h5p).symm, hS.bl⟩
      · intro h6
        have h6p : ¬ (g > 1000) := by simpa using h6
        refine ⟨(fun W hS => ref_Of g ht W), ?_⟩
        intro A7 c8
        have nA7 : nd g ≤ 4 := (nd_i64 ht)
        refine ⟨(fun W hS => ref_Of s hs W), ?_⟩
        intro A9 c10
        have nA9 : nd s ≤ 4 := (nd_i64 hs)
        refine ⟨(fun W hS => ref_Mul g s _ _ _ _ (Nat.le_trans nA7 (by decide)) (Nat.le_trans nA9 (by decide)) W (hS.rb 0 rfl) (hS.rb 1 rfl)), ?_⟩
        intro A11 c12
        have nA11 : nd (g * s) ≤ 8 := (by have h1 := nA7; have h2 := nA9; have h3 := nd_mul g s; omega)
        refine ⟨(fun W hS => ref_Power 40 (by decide) W), ?_⟩
        intro A13 c14
        have nA13 : nd (pow2 40) ≤ 3 := (by rw [nd_pow2]; decide)
        refine ⟨(fun W hS => ref_Mul (g * s) (pow2 40) _ _ _ _ (Nat.le_trans nA11 (by decide)) (Nat.le_trans nA13 (by decide)) W (hS.rb 2 rfl) (hS.rb 3 rfl)), ?_⟩
        intro A15 c16
        have nA15 : nd ((g * s) * (pow2 40)) ≤ 11 := (by have h1 := nA11; have h2 := nA13; have h3 := nd_mul (g * s) (pow2 40); omega)
        intro r17
        refine ⟨⟨rfl, rfl, trivial⟩, rfl, (fun W hS => ref_Of y hy W), ?_⟩
        intro A18 c19
        have nA18 : nd y ≤ 4 := (nd_i64 hy)
        refine ⟨(fun W hS => ref_Of y hy W), ?_⟩
        intro A20 c21
        refine ⟨(fun W hS => ref_Mul y y _ _ _ _ (Nat.le_trans nA18 (by decide)) (Nat.le_trans nA18 (by decide)) W (hS.rb 5 rfl) (hS.rb 6 rfl)), ?_⟩
        intro A22 c23
        have nA22 : nd (y * y) ≤ 8 := (by have h1 := nA18; have h2 := nA18; have h3 := nd_mul y y; omega)
        refine ⟨(CallV.be fun W hS => ref_Cmp (y * y) ((g * s) * (pow2 40)) _ _ _ _ (Nat.le_trans nA22 (by decide)) (Nat.le_trans nA15 (by decide)) W (hS.rb 7 rfl) (hS.rb 4 rfl)), trivial, ?_⟩
        exact fun W hS => ⟨congrArg (fun q => Ending.returned (Value.bool q)) ((cmpZ_le _ _).trans (pass_val h2 (by omega) (by omega)).symm), hS.bl⟩
set_option maxRecDepth 1000000 in
set_option maxHeartbeats 8000000 in
theorem gate_Least1_plan (y s g : Int) (b1 b2 : Nat) (w : World) (R : Ending → World → Prop) (hG : St w w [] []) (hE : Ex w [(b1, [.int .i64 y]), (b2, [.int .i64 s])])
    (h : b1 = b1 ∧ b2 = b2 ∧ CallV Tryd.prog w [] [] 28 #[.int .i64 y, .int .i64 s, .int .i64 g] (.bool (passB y s g)) ∧ (True) ∧ (LeafV R w [] [] (.bool (passB y s g)))) : Calls Tryd.prog 65 #[.int .i64 g, .pointer (some ⟨b1, 0, none⟩), .pointer (some ⟨b2, 0, none⟩)] w R :=
  calls_of_plan (f := 65) (es := [(b1, [.int .i64 y]), (b2, [.int .i64 s])]) (c := Tryd.f65.body.getD .skip) (tmps := #[.int .i64 g, .pointer (some ⟨b1, 0, none⟩), .pointer (some ⟨b2, 0, none⟩), undef, undef, undef, undef, undef, undef])
    (.s [.c, .c, .v, .c, .c, .c, .ext 0, .ext 1, .v, .call (.bool (passB y s g)), .v, .c] (.ret []))
    (by kernel_rfl) hG hE Tryd.func65 (by kernel_rfl) (by kernel_rfl) (Eq.mpr (by kernel_rfl) h)
set_option maxRecDepth 1000000 in
set_option maxHeartbeats 8000000 in
theorem gate_Least1 (y s g : Int) (b1 b2 : Nat) (hy : I64 y) (hs : I64 s) (ht : I64 g) (w : World) (hg : GN w) (h1 : w.cell? ⟨b1, 0, none⟩ = some (.int .i64 y)) (h2 : w.cell? ⟨b2, 0, none⟩ = some (.int .i64 s)) : Calls Tryd.prog 65 #[.int .i64 g, .pointer (some ⟨b1, 0, none⟩), .pointer (some ⟨b2, 0, none⟩)] w (fun e w' => e = .returned (.bool (passB y s g)) ∧ Below w.heap.size w w') := by
  refine gate_Least1_plan y s g b1 b2 w _ (St.refl w) (Ex.cons (exOf (by exact ⟨h1, trivial⟩)) (Ex.cons (exOf (by exact ⟨h2, trivial⟩)) (Ex.nil))) ?_
  refine ⟨rfl, rfl, (CallV.be fun W hS => gate_Pass y s g hy hs ht W (hg.below hS.bl)), trivial, ?_⟩
  exact fun W hS => ⟨rfl, hS.bl⟩
set_option maxRecDepth 1000000 in
set_option maxHeartbeats 8000000 in
theorem gate_Search_plan (y s : Int) (b1 b2 : Nat) (w : World) (R : Ending → World → Prop) (hG : St w w [] []) (hE : Ex w [])
    (h : (∃ (k' : Nat) (ξ' : Nat → Int) (u' : Nat → Value) (α' : Nat → Option Addr × Nat), (0 ≤ ξ' 0 ∧ ξ' 0 ≤ leastQ y s ∧ leastQ y s ≤ ξ' 1 ∧ ξ' 1 ≤ 1001) ∧ (#[.int .i64 1001, .func (.func 65) #[] #[.pointer (some ⟨b1, 0, none⟩), .pointer (some ⟨b2, 0, none⟩)], undef, undef, .int .i64 0, .int .i64 0, .int .i64 1001, undef, .int .i64 1001, undef, undef, undef, undef, undef, undef, undef, undef, undef, undef, undef, undef, undef, undef, undef, undef, undef] : Array Value) = #[.int .i64 1001, .func (.func 65) #[] #[.pointer (some ⟨b1, 0, none⟩), .pointer (some ⟨b2, 0, none⟩)], undef, undef, .int .i64 0, .int .i64 (ξ' 0), .int .i64 (ξ' 1), (u' 7), .int .i64 1001, (u' 9), (u' 10), (u' 11), (u' 12), (u' 13), (u' 14), (u' 15), (u' 16), (u' 17), (u' 18), (u' 19), (u' 20), (u' 21), (u' 22), (u' 23), (u' 24), undef] ∧ (∃ t : Blks, ([] : Blks) = [] ++ t) ∧ ([] : Bigs) ⊆ []) ∧ (∀ (k1 : Nat) (ξ2 : Nat → Int) (u3 : Nat → Value) (α4 : Nat → Option Addr × Nat), (0 ≤ ξ2 0 ∧ ξ2 0 ≤ leastQ y s ∧ leastQ y s ≤ ξ2 1 ∧ ξ2 1 ≤ 1001) → (((decide ((ξ2 0) < (ξ2 1))) = true → Value.int .i64 (IntKind.i64.wrap ((ξ2 0) + (ξ2 1))) = .int .i64 ((ξ2 0) + (ξ2 1)) ∧ Value.int .u64 (IntKind.u64.wrap (((ξ2 0) + (ξ2 1)))) = .int .u64 ((ξ2 0) + (ξ2 1)) ∧ Value.int .u64 (Int.fdiv ((ξ2 0) + (ξ2 1)) (2 ^ 1)) = .int .u64 (((ξ2 0) + (ξ2 1)) / 2) ∧ Value.int .i64 (IntKind.i64.wrap ((((ξ2 0) + (ξ2 1)) / 2))) = .int .i64 (((ξ2 0) + (ξ2 1)) / 2) ∧ CallV Tryd.prog w [] [] 65 #[.int .i64 (((ξ2 0) + (ξ2 1)) / 2), .pointer (some ⟨b1, 0, none⟩), .pointer (some ⟨b2, 0, none⟩)] (.bool (passB y s (((ξ2 0) + (ξ2 1)) / 2))) ∧ (((!(passB y s (((ξ2 0) + (ξ2 1)) / 2))) = true → Value.int .i64 (IntKind.i64.wrap ((((ξ2 0) + (ξ2 1)) / 2) + 1)) = .int .i64 ((((ξ2 0) + (ξ2 1)) / 2) + 1) ∧ (.int .i64 ((((ξ2 0) + (ξ2 1)) / 2) + 1) : Value) = .int .i64 ((pr2 ((((ξ2 0) + (ξ2 1)) / 2) + 1) (ξ2 1)) 0) ∧ (.int .i64 (ξ2 1) : Value) = .int .i64 ((pr2 ((((ξ2 0) + (ξ2 1)) / 2) + 1) (ξ2 1)) 1) ∧ ((walkTodo 21 [true, true] [.code (Tryd.f64.body.getD .skip)]) = (walkTodo 7 [] [.code (Tryd.f64.body.getD .skip)]) ∧ ∃ (k' : Nat) (ξ' : Nat → Int) (u' : Nat → Value) (α' : Nat → Option Addr × Nat), (0 ≤ ξ' 0 ∧ ξ' 0 ≤ leastQ y s ∧ leastQ y s ≤ ξ' 1 ∧ ξ' 1 ≤ 1001) ∧ ((ξ' 1 - ξ' 0).toNat) < ((ξ2 1 - ξ2 0).toNat) ∧ (#[.int .i64 1001, .func (.func 65) #[] #[.pointer (some ⟨b1, 0, none⟩), .pointer (some ⟨b2, 0, none⟩)], undef, undef, .int .i64 0, .int .i64 ((pr2 ((((ξ2 0) + (ξ2 1)) / 2) + 1) (ξ2 1)) 0), .int .i64 ((pr2 ((((ξ2 0) + (ξ2 1)) / 2) + 1) (ξ2 1)) 1), .int .i64 (((ξ2 0) + (ξ2 1)) / 2), .int .i64 1001, .int .i64 (ξ2 0), .int .i64 (ξ2 1), .bool true, .int .i64 (ξ2 0), .int .i64 (ξ2 1), .int .i64 ((ξ2 0) + (ξ2 1)), .int .u64 ((ξ2 0) + (ξ2 1)), .int .u64 (((ξ2 0) + (ξ2 1)) / 2), .int .i64 (((ξ2 0) + (ξ2 1)) / 2), .func (.func 65) #[] #[.pointer (some ⟨b1, 0, none⟩), .pointer (some ⟨b2, 0, none⟩)], .int .i64 (((ξ2 0) + (ξ2 1)) / 2), .bool (passB y s (((ξ2 0) + (ξ2 1)) / 2)), .bool true, .int .i64 (((ξ2 0) + (ξ2 1)) / 2), .int .i64 ((((ξ2 0) + (ξ2 1)) / 2) + 1), (u3 24), undef] : Array Value) = #[.int .i64 1001, .func (.func 65) #[] #[.pointer (some ⟨b1, 0, none⟩), .pointer (some ⟨b2, 0, none⟩)], undef, undef, .int .i64 0, .int .i64 (ξ' 0), .int .i64 (ξ' 1), (u' 7), .int .i64 1001, (u' 9), (u' 10), (u' 11), (u' 12), (u' 13), (u' 14), (u' 15), (u' 16), (u' 17), (u' 18), (u' 19), (u' 20), (u' 21), (u' 22), (u' 23), (u' 24), undef] ∧ (∃ t : Blks, ([] : Blks) = [] ++ t) ∧ ([] : Bigs) ⊆ [])) ∧ ((!(passB y s (((ξ2 0) + (ξ2 1)) / 2))) = false → (.int .i64 (ξ2 0) : Value) = .int .i64 ((pr2 (ξ2 0) (((ξ2 0) + (ξ2 1)) / 2)) 0) ∧ (.int .i64 (((ξ2 0) + (ξ2 1)) / 2) : Value) = .int .i64 ((pr2 (ξ2 0) (((ξ2 0) + (ξ2 1)) / 2)) 1) ∧ ((walkTodo 21 [true, false] [.code (Tryd.f64.body.getD .skip)]) = (walkTodo 7 [] [.code (Tryd.f64.body.getD .skip)]) ∧ ∃ (k' : Nat) (ξ' : Nat → Int) (u' : Nat → Value) (α' : Nat → Option Addr × Nat), (0 ≤ ξ' 0 ∧ ξ' 0 ≤ leastQ y s ∧ leastQ y s ≤ ξ' 1 ∧ ξ' 1 ≤ 1001) ∧ ((ξ' 1 - ξ' 0).toNat) < ((ξ2 1 - ξ2 0).toNat) ∧ (#[.int .i64 1001, .func (.func 65) #[] #[.pointer (some ⟨b1, 0, none⟩), .pointer (some ⟨b2, 0, none⟩)], undef, undef, .int .i64 0, .int .i64 ((pr2 (ξ2 0) (((ξ2 0) + (ξ2 1)) / 2)) 0), .int .i64 ((pr2 (ξ2 0) (((ξ2 0) + (ξ2 1)) / 2)) 1), .int .i64 (((ξ2 0) + (ξ2 1)) / 2), .int .i64 1001, .int .i64 (ξ2 0), .int .i64 (ξ2 1), .bool true, .int .i64 (ξ2 0), .int .i64 (ξ2 1), .int .i64 ((ξ2 0) + (ξ2 1)), .int .u64 ((ξ2 0) + (ξ2 1)), .int .u64 (((ξ2 0) + (ξ2 1)) / 2), .int .i64 (((ξ2 0) + (ξ2 1)) / 2), .func (.func 65) #[] #[.pointer (some ⟨b1, 0, none⟩), .pointer (some ⟨b2, 0, none⟩)], .int .i64 (((ξ2 0) + (ξ2 1)) / 2), .bool (passB y s (((ξ2 0) + (ξ2 1)) / 2)), .bool false, (u3 22), (u3 23), .int .i64 (((ξ2 0) + (ξ2 1)) / 2), undef] : Array Value) = #[.int .i64 1001, .func (.func 65) #[] #[.pointer (some ⟨b1, 0, none⟩), .pointer (some ⟨b2, 0, none⟩)], undef, undef, .int .i64 0, .int .i64 (ξ' 0), .int .i64 (ξ' 1), (u' 7), .int .i64 1001, (u' 9), (u' 10), (u' 11), (u' 12), (u' 13), (u' 14), (u' 15), (u' 16), (u' 17), (u' 18), (u' 19), (u' 20), (u' 21), (u' 22), (u' 23), (u' 24), undef] ∧ (∃ t : Blks, ([] : Blks) = [] ++ t) ∧ ([] : Bigs) ⊆ [])))) ∧ ((decide ((ξ2 0) < (ξ2 1))) = false → (True) ∧ (LeafV R w [] [] (.int .i64 (ξ2 0))))))) : Calls Tryd.prog 64 #[.int .i64 1001, .func (.func 65) #[] #[.pointer (some ⟨b1, 0, none⟩), .pointer (some ⟨b2, 0, none⟩)]] w R :=
  calls_of_plan (f := 64) (es := []) (c := Tryd.f64.body.getD .skip) (tmps := #[.int .i64 1001, .func (.func 65) #[] #[.pointer (some ⟨b1, 0, none⟩), .pointer (some ⟨b2, 0, none⟩)], undef, undef, undef, undef, undef, undef, undef, undef, undef, undef, undef, undef, undef, undef, undef, undef, undef, undef, undef, undef, undef, undef, undef, undef])
    (.s [.c, .c, .v, .c, .c, .c, .v, .v, .v, .c, .c, .c, .c] (.loop (fun k' ξ' => 0 ≤ ξ' 0 ∧ ξ' 0 ≤ leastQ y s ∧ leastQ y s ≤ ξ' 1 ∧ ξ' 1 ≤ 1001) (fun k' ξ' => (ξ' 1 - ξ' 0).toNat) (fun k' ξ' u' α' => (#[.int .i64 1001, .func (.func 65) #[] #[.pointer (some ⟨b1, 0, none⟩), .pointer (some ⟨b2, 0, none⟩)], undef, undef, .int .i64 0, .int .i64 (ξ' 0), .int .i64 (ξ' 1), (u' 7), .int .i64 1001, (u' 9), (u' 10), (u' 11), (u' 12), (u' 13), (u' 14), (u' 15), (u' 16), (u' 17), (u' 18), (u' 19), (u' 20), (u' 21), (u' 22), (u' 23), (u' 24), undef], [], [])) (fun k1 ξ2 u3 α4 => .s [.c, .c, .c, .v, .v, .v, .c] (.split 11 (.s [.c, .c, .c, .c, .c, .v, .v, .v, .setv 14 (.int .i64 ((ξ2 0) + (ξ2 1))), .v, .setv 15 (.int .u64 ((ξ2 0) + (ξ2 1))), .v, .setv 16 (.int .u64 (((ξ2 0) + (ξ2 1)) / 2)), .v, .setv 17 (.int .i64 (((ξ2 0) + (ξ2 1)) / 2)), .v, .c, .c, .c, .v, .v, .call (.bool (passB y s (((ξ2 0) + (ξ2 1)) / 2))), .v, .c] (.split 21 (.s [.c, .c, .v, .v, .setv 23 (.int .i64 ((((ξ2 0) + (ξ2 1)) / 2) + 1)), .v, .c, .c, .c, .setv 5 (.int .i64 ((pr2 ((((ξ2 0) + (ξ2 1)) / 2) + 1) (ξ2 1)) 0)), .setv 6 (.int .i64 ((pr2 ((((ξ2 0) + (ξ2 1)) / 2) + 1) (ξ2 1)) 1))] (.again 0)) (.s [.c, .c, .v, .v, .c, .c, .c, .setv 5 (.int .i64 ((pr2 (ξ2 0) (((ξ2 0) + (ξ2 1)) / 2)) 0)), .setv 6 (.int .i64 ((pr2 (ξ2 0) (((ξ2 0) + (ξ2 1)) / 2)) 1))] (.again 0)))) (.s [.c, .c, .c, .c, .v, .v, .c] (.ret []))))))
    (by kernel_rfl) hG hE Tryd.func64 (by kernel_rfl) (by kernel_rfl) (Eq.mpr (by kernel_rfl) h)
set_option maxRecDepth 1000000 in
set_option maxHeartbeats 8000000 in
theorem gate_Search (y s : Int) (b1 b2 : Nat) (hr : rightB y s = true) (hy : I64 y) (hs : I64 s) (w : World) (hg : GN w) (h1 : w.cell? ⟨b1, 0, none⟩ = some (.int .i64 y)) (h2 : w.cell? ⟨b2, 0, none⟩ = some (.int .i64 s)) : Calls Tryd.prog 64 #[.int .i64 1001, .func (.func 65) #[] #[.pointer (some ⟨b1, 0, none⟩), .pointer (some ⟨b2, 0, none⟩)]] w (fun e w' => e = .returned (.int .i64 (leastQ y s)) ∧ Below w.heap.size w w') := by
  refine gate_Search_plan y s b1 b2 w _ (St.refl w) Ex.nil ?_
  refine ⟨?_, ?_⟩
  · refine ⟨0, (pr2 0 1001), fun i => match i with | 7 => undef | 9 => undef | 10 => undef | 11 => undef | 12 => undef | 13 => undef | 14 => undef | 15 => undef | 16 => undef | 17 => undef | 18 => undef | 19 => undef | 20 => undef | 21 => undef | 22 => undef | 23 => undef | 24 => undef | _ => undef, fun _ => (none, 0), ?_, by kernel_rfl, ⟨[], by kernel_rfl⟩, by simp⟩
    have Q := leastQ_in (y := y) (right_true hr).2.2
    simp only [pr2]; omega
  · intro k1 ξ2 u3 α4 hI
    refine ⟨?_, ?_⟩
    · intro h5
      have h5p : (ξ2 0) < (ξ2 1) := by simpa using h5
      refine ⟨congrArg (Value.int .i64) (wrapI (by omega)), congrArg (Value.int .u64) (u64w (by omega)), congrArg (Value.int .u64) (shr_eq _ 1), congrArg (Value.int .i64) (wrapI (by omega)), (CallV.be fun W hS => gate_Least1 y s (((ξ2 0) + (ξ2 1)) / 2) b1 b2 hy hs (by unfold I64; omega) W (hg.below hS.bl) (cell_bl hS.bl h1) (cell_bl hS.bl h2)), ?_⟩
      refine ⟨?_, ?_⟩
      · intro h60
        have h6 : (passB y s (((ξ2 0) + (ξ2 1)) / 2)) = false := by simpa using h60
        refine ⟨congrArg (Value.int .i64) (wrapI (by omega)), rfl, rfl, ?_⟩
        refine ⟨by kernel_rfl, (k1 + 1), (pr2 ((((ξ2 0) + (ξ2 1)) / 2) + 1) (ξ2 1)), fun i => match i with | 7 => .int .i64 (((ξ2 0) + (ξ2 1)) / 2) | 9 => .int .i64 (ξ2 0) | 10 => .int .i64 (ξ2 1) | 11 => .bool true | 12 => .int .i64 (ξ2 0) | 13 => .int .i64 (ξ2 1) | 14 => .int .i64 ((ξ2 0) + (ξ2 1)) | 15 => .int .u64 ((ξ2 0) + (ξ2 1)) | 16 => .int .u64 (((ξ2 0) + (ξ2 1)) / 2) | 17 => .int .i64 (((ξ2 0) + (ξ2 1)) / 2) | 18 => .func (.func 65) #[] #[.pointer (some ⟨b1, 0, none⟩), .pointer (some ⟨b2, 0, none⟩)] | 19 => .int .i64 (((ξ2 0) + (ξ2 1)) / 2) | 20 => .bool (passB y s (((ξ2 0) + (ξ2 1)) / 2)) | 21 => .bool true | 22 => .int .i64 (((ξ2 0) + (ξ2 1)) / 2) | 23 => .int .i64 ((((ξ2 0) + (ξ2 1)) / 2) + 1) | 24 => (u3 24) | _ => undef, fun _ => (none, 0), ?_, ?_, by kernel_rfl, ⟨[], by kernel_rfl⟩, by simp⟩
        · have P := (pass_mid (g := (((ξ2 0) + (ξ2 1)) / 2)) hr (by omega) (by omega)).2 h6
          simp only [pr2]; omega
        · simp only [pr2]; omega
      · intro h70
        have h7 : (passB y s (((ξ2 0) + (ξ2 1)) / 2)) = true := by simpa using h70
        refine ⟨rfl, rfl, ?_⟩
        refine ⟨by kernel_rfl, (k1 + 1), (pr2 (ξ2 0) (((ξ2 0) + (ξ2 1)) / 2)), fun i => match i with | 7 => .int .i64 (((ξ2 0) + (ξ2 1)) / 2) | 9 => .int .i64 (ξ2 0) | 10 => .int .i64 (ξ2 1) | 11 => .bool true | 12 => .int .i64 (ξ2 0) | 13 => .int .i64 (ξ2 1) | 14 => .int .i64 ((ξ2 0) + (ξ2 1)) | 15 => .int .u64 ((ξ2 0) + (ξ2 1)) | 16 => .int .u64 (((ξ2 0) + (ξ2 1)) / 2) | 17 => .int .i64 (((ξ2 0) + (ξ2 1)) / 2) | 18 => .func (.func 65) #[] #[.pointer (some ⟨b1, 0, none⟩), .pointer (some ⟨b2, 0, none⟩)] | 19 => .int .i64 (((ξ2 0) + (ξ2 1)) / 2) | 20 => .bool (passB y s (((ξ2 0) + (ξ2 1)) / 2)) | 21 => .bool false | 22 => (u3 22) | 23 => (u3 23) | 24 => .int .i64 (((ξ2 0) + (ξ2 1)) / 2) | _ => undef, fun _ => (none, 0), ?_, ?_, by kernel_rfl, ⟨[], by kernel_rfl⟩, by simp⟩
        · have P := (pass_mid (g := (((ξ2 0) + (ξ2 1)) / 2)) hr (by omega) (by omega)).1 h7
          simp only [pr2]; omega
        · simp only [pr2]; omega
    · intro h8
      have h8p : ¬ ((ξ2 0) < (ξ2 1)) := by simpa using h8
      refine ⟨trivial, ?_⟩
      have Q : (ξ2 0) = leastQ y s := by omega
      exact fun W hS => ⟨by rw [Q], hS.bl⟩
set_option maxRecDepth 1000000 in
set_option maxHeartbeats 8000000 in
theorem gate_Least_plan (y s : Int) (w : World) (R : Ending → World → Prop) (hG : St w w [] []) (hE : Ex w [])
    (h : ∀ r1 : Nat, ∀ r2 : Nat, r1 = r1 ∧ r2 = r2 ∧ CallV Tryd.prog w [(r1, [.int .i64 y]), (r2, [.int .i64 s])] [] 63 #[.int .i64 y, .int .i64 s] (.bool (rightB y s)) ∧ (((!(rightB y s)) = true → (True) ∧ (LeafV R w [(r1, [.int .i64 y]), (r2, [.int .i64 s])] [] (.tuple #[.int .i64 0, .int .i64 1]))) ∧ ((!(rightB y s)) = false → CallV Tryd.prog w [(r1, [.int .i64 y]), (r2, [.int .i64 s])] [] 64 #[.int .i64 1001, .func (.func 65) #[] #[.pointer (some ⟨r1, 0, none⟩), .pointer (some ⟨r2, 0, none⟩)]] (.int .i64 (leastQ y s)) ∧ (((decide ((leastQ y s) > 1000)) = true → (True) ∧ (LeafV R w [(r1, [.int .i64 y]), (r2, [.int .i64 s])] [] (.tuple #[.int .i64 0, .int .i64 2]))) ∧ ((decide ((leastQ y s) > 1000)) = false → (True) ∧ (LeafV R w [(r1, [.int .i64 y]), (r2, [.int .i64 s])] [] (.tuple #[.int .i64 (leastQ y s), .int .i64 0]))))))) : Calls Tryd.prog 25 #[.int .i64 y, .int .i64 s] w R :=
  calls_of_plan (f := 25) (es := []) (c := Tryd.f25.body.getD .skip) (tmps := #[.int .i64 y, .int .i64 s, undef, undef, undef, undef, undef, undef, undef, undef, undef, undef, undef, undef, undef, undef])
    (.s [.c, .c] (.new (fun r1 => .new (fun r2 => .s [.v, .v, .c, .c, .c, .c, .own 0, .own 1, .call (.bool (rightB y s)), .v, .c] (.split 10 (.s [.c, .c, .c, .v, .v, .c] (.ret [])) (.s [.c, .c, .c, .c, .v, .call (.int .i64 (leastQ y s)), .v, .c, .c, .c, .c, .v, .v, .c] (.split 14 (.s [.c, .c, .c, .v, .v, .c] (.ret [])) (.s [.c, .c, .c, .c, .v, .v, .v, .c] (.ret [])))))))))
    (by kernel_rfl) hG hE Tryd.func25 (by kernel_rfl) (by kernel_rfl) (Eq.mpr (by kernel_rfl) h)
set_option maxRecDepth 1000000 in
set_option maxHeartbeats 8000000 in
theorem gate_Least (y s : Int) (hy : I64 y) (hs : I64 s) (w : World) (hg : GN w) : Calls Tryd.prog 25 #[.int .i64 y, .int .i64 s] w (fun e w' => e = .returned (.tuple #[.int .i64 (leastV y s), .int .i64 (leastE y s)]) ∧ Below w.heap.size w w') := by
  refine gate_Least_plan y s w _ (St.refl w) Ex.nil ?_
  intro r1
  intro r2
  refine ⟨rfl, rfl, (CallV.be fun W hS => gate_right y s W), ?_⟩
  refine ⟨?_, ?_⟩
  · intro h30
    have h3 : (rightB y s) = false := by simpa using h30
    refine ⟨trivial, ?_⟩
    have F := leastV_no h3
    exact fun W hS => ⟨by rw [F.1, F.2], hS.bl⟩
  · intro h40
    have h4 : (rightB y s) = true := by simpa using h40
    obtain ⟨hr1, hr2, hr3⟩ := right_true h4
    refine ⟨(CallV.be fun W hS => gate_Search y s r1 r2 h4 hy hs W (hg.below hS.bl) (hS.cell 0 0 rfl rfl) (hS.cell 1 0 rfl rfl)), ?_⟩
    refine ⟨?_, ?_⟩
    · intro h5
      have h5p : (leastQ y s) > 1000 := by simpa using h5
      refine ⟨trivial, ?_⟩
      have F := leastV_hi h4 h5p
      exact fun W hS => ⟨by rw [F.1, F.2], hS.bl⟩
    · intro h6
      have h6p : ¬ ((leastQ y s) > 1000) := by simpa using h6
      refine ⟨trivial, ?_⟩
      have F := leastV_lo h4 h6p
      exact fun W hS => ⟨by rw [F.1, F.2], hS.bl⟩
set_option maxRecDepth 1000000 in
set_option maxHeartbeats 8000000 in
theorem ref10_Least_plan (y s : Int) (w : World) (R : Ending → World → Prop) (hG : St w w [] []) (hE : Ex w [])
    (h : CallV Tryd.prog w [] [] 66 #[.int .i64 y, .int .i64 s] (.bool (rightB y s)) ∧ (((!(rightB y s)) = true → (True) ∧ (LeafV R w [] [] (.tuple #[.int .i64 0, .int .i64 1]))) ∧ ((!(rightB y s)) = false → CallB Tryd.prog w [] [] 52 #[.int .i64 s] s ∧ (∀ (A3 : Option Addr) (c4 : Nat), CallB Tryd.prog w [] [(A3, c4, s)] 67 #[.int .i64 40] (pow2 40) ∧ (∀ (A5 : Option Addr) (c6 : Nat), CallB Tryd.prog w [] [(A3, c4, s), (A5, c6, pow2 40)] 54 #[.agg #[.bool (sg s), .slice A3 (nd s) c4], .agg #[.bool (sg (pow2 40)), .slice A5 (nd (pow2 40)) c6]] (s * (pow2 40)) ∧ (∀ (A7 : Option Addr) (c8 : Nat), ∀ r9 : Nat, (r9 = r9 ∧ (r9 = r9 ∧ (True))) ∧ ((r9 = r9 ∧ ((CallB Tryd.prog w [(r9, [.bool (sg (s * (pow2 40))), .slice A7 (nd (s * (pow2 40))) c8])] [(A3, c4, s), (A5, c6, pow2 40), (A7, c8, s * (pow2 40))] 52 #[.int .i64 y] y ∧ (∀ (A12 : Option Addr) (c13 : Nat), (CallB Tryd.prog w [(r9, [.bool (sg (s * (pow2 40))), .slice A7 (nd (s * (pow2 40))) c8])] [(A3, c4, s), (A5, c6, pow2 40), (A7, c8, s * (pow2 40)), (A12, c13, y)] 52 #[.int .i64 y] y ∧ (∀ (A14 : Option Addr) (c15 : Nat), (CallB Tryd.prog w [(r9, [.bool (sg (s * (pow2 40))), .slice A7 (nd (s * (pow2 40))) c8])] [(A3, c4, s), (A5, c6, pow2 40), (A7, c8, s * (pow2 40)), (A12, c13, y), (A14, c15, y)] 54 #[.agg #[.bool (sg y), .slice A12 (nd y) c13], .agg #[.bool (sg y), .slice A14 (nd y) c15]] (y * y) ∧ (∀ (A16 : Option Addr) (c17 : Nat), (CallB Tryd.prog w [(r9, [.bool (sg (s * (pow2 40))), .slice A7 (nd (s * (pow2 40))) c8])] [(A3, c4, s), (A5, c6, pow2 40), (A7, c8, s * (pow2 40)), (A12, c13, y), (A14, c15, y), (A16, c17, y * y)] 68 #[.agg #[.bool (sg (y * y)), .slice A16 (nd (y * y)) c17]] (-(y * y)) ∧ (∀ (A18 : Option Addr) (c19 : Nat), (CallB Tryd.prog w [(r9, [.bool (sg (s * (pow2 40))), .slice A7 (nd (s * (pow2 40))) c8])] [(A3, c4, s), (A5, c6, pow2 40), (A7, c8, s * (pow2 40)), (A12, c13, y), (A14, c15, y), (A16, c17, y * y), (A18, c19, -(y * y))] 69 #[.agg #[.bool (sg (-(y * y))), .slice A18 (nd (-(y * y))) c19], .agg #[.bool (sg (s * (pow2 40))), .slice A7 (nd (s * (pow2 40))) c8]] (fl (-(y * y)) (s * (pow2 40))) ∧ (∀ (A20 : Option Addr) (c21 : Nat), (CallB Tryd.prog w [(r9, [.bool (sg (s * (pow2 40))), .slice A7 (nd (s * (pow2 40))) c8])] [(A3, c4, s), (A5, c6, pow2 40), (A7, c8, s * (pow2 40)), (A12, c13, y), (A14, c15, y), (A16, c17, y * y), (A18, c19, -(y * y)), (A20, c21, fl (-(y * y)) (s * (pow2 40)))] 68 #[.agg #[.bool (sg (fl (-(y * y)) (s * (pow2 40)))), .slice A20 (nd (fl (-(y * y)) (s * (pow2 40)))) c21]] (-(fl (-(y * y)) (s * (pow2 40)))) ∧ (∀ (A22 : Option Addr) (c23 : Nat), ∀ r24 : Nat, (r24 = r24 ∧ (r24 = r24 ∧ (True))) ∧ ((∃ (ρ10 : Nat → Nat) (α11 : Nat → Option Addr × Nat), (#[.int .i64 y, .int .i64 s, undef, undef, .int .i64 0, .int .i64 0, .pointer (some ⟨r9, 0, none⟩), .pointer (some ⟨r24, 0, none⟩), undef, undef, .int .i64 y, .int .i64 s, .bool (rightB y s), .bool false, .int .i64 s, .agg #[.bool (sg s), .slice A3 (nd s) c4], .agg #[.bool (sg (pow2 40)), .slice A5 (nd (pow2 40)) c6], .agg #[.bool (sg (s * (pow2 40))), .slice A7 (nd (s * (pow2 40))) c8], .int .i64 y, .agg #[.bool (sg y), .slice A12 (nd y) c13], .int .i64 y, .agg #[.bool (sg y), .slice A14 (nd y) c15], .agg #[.bool (sg (y * y)), .slice A16 (nd (y * y)) c17], .agg #[.bool (sg (-(y * y))), .slice A18 (nd (-(y * y))) c19], .agg #[.bool (sg (s * (pow2 40))), .slice A7 (nd (s * (pow2 40))) c8], .agg #[.bool (sg (fl (-(y * y)) (s * (pow2 40)))), .slice A20 (nd (fl (-(y * y)) (s * (pow2 40)))) c21], .agg #[.bool (sg (-(fl (-(y * y)) (s * (pow2 40))))), .slice A22 (nd (-(fl (-(y * y)) (s * (pow2 40))))) c23], undef, undef, undef, undef, undef, undef, undef, undef, undef, undef] : Array Value) = #[.int .i64 y, .int .i64 s, undef, undef, .int .i64 0, .int .i64 0, .pointer (some ⟨r9, 0, none⟩), .pointer (some ⟨(ρ10 0), 0, none⟩), undef, undef, .int .i64 y, .int .i64 s, .bool (rightB y s), .bool false, .int .i64 s, .agg #[.bool (sg s), .slice A3 (nd s) c4], .agg #[.bool (sg (pow2 40)), .slice A5 (nd (pow2 40)) c6], .agg #[.bool (sg (s * (pow2 40))), .slice A7 (nd (s * (pow2 40))) c8], .int .i64 y, .agg #[.bool (sg y), .slice ((α11 0).1) (nd y) ((α11 0).2)], .int .i64 y, .agg #[.bool (sg y), .slice ((α11 1).1) (nd y) ((α11 1).2)], .agg #[.bool (sg (y * y)), .slice ((α11 2).1) (nd (y * y)) ((α11 2).2)], .agg #[.bool (sg (-(y * y))), .slice ((α11 3).1) (nd (-(y * y))) ((α11 3).2)], .agg #[.bool (sg (s * (pow2 40))), .slice A7 (nd (s * (pow2 40))) c8], .agg #[.bool (sg (fl (-(y * y)) (s * (pow2 40)))), .slice ((α11 4).1) (nd (fl (-(y * y)) (s * (pow2 40)))) ((α11 4).2)], .agg #[.bool (sg (-(fl (-(y * y)) (s * (pow2 40))))), .slice ((α11 5).1) (nd (-(fl (-(y * y)) (s * (pow2 40))))) ((α11 5).2)], undef, undef, undef, undef, undef, undef, undef, undef, undef, undef] ∧ ([(r9, [.bool (sg (s * (pow2 40))), .slice A7 (nd (s * (pow2 40))) c8]), (r24, [.bool (sg (-(fl (-(y * y)) (s * (pow2 40))))), .slice A22 (nd (-(fl (-(y * y)) (s * (pow2 40))))) c23])] : Blks) = [(r9, [.bool (sg (s * (pow2 40))), .slice A7 (nd (s * (pow2 40))) c8]), ((ρ10 0), [.bool (sg (-(fl (-(y * y)) (s * (pow2 40))))), .slice ((α11 5).1) (nd (-(fl (-(y * y)) (s * (pow2 40))))) ((α11 5).2)])] ∧ ([(A3, c4, s), (A5, c6, pow2 40), (A7, c8, s * (pow2 40)), (A12, c13, y), (A14, c15, y), (A16, c17, y * y), (A18, c19, -(y * y)), (A20, c21, fl (-(y * y)) (s * (pow2 40))), (A22, c23, -(fl (-(y * y)) (s * (pow2 40))))] : Bigs) = [(A3, c4, s), (A5, c6, pow2 40), (A7, c8, s * (pow2 40)), ((α11 0).1, (α11 0).2, y), ((α11 1).1, (α11 1).2, y), ((α11 2).1, (α11 2).2, y * y), ((α11 3).1, (α11 3).2, -(y * y)), ((α11 4).1, (α11 4).2, fl (-(y * y)) (s * (pow2 40))), ((α11 5).1, (α11 5).2, -(fl (-(y * y)) (s * (pow2 40))))])))) ∧ (∀ r25 : Nat, CallB Tryd.prog w [(r9, [.bool (sg (s * (pow2 40))), .slice A7 (nd (s * (pow2 40))) c8]), (r25, [.bool false, .slice none 0 0])] [(A3, c4, s), (A5, c6, pow2 40), (A7, c8, s * (pow2 40)), (A12, c13, y), (A14, c15, y), (A16, c17, y * y), (A18, c19, -(y * y)), (A20, c21, fl (-(y * y)) (s * (pow2 40)))] 68 #[.agg #[.bool (sg (fl (-(y * y)) (s * (pow2 40)))), .slice A20 (nd (fl (-(y * y)) (s * (pow2 40)))) c21]] (-(fl (-(y * y)) (s * (pow2 40)))) ∧ (∀ (A26 : Option Addr) (c27 : Nat), (r25 = r25 ∧ (r25 = r25 ∧ (True))) ∧ ((∃ (ρ10 : Nat → Nat) (α11 : Nat → Option Addr × Nat), (#[.int .i64 y, .int .i64 s, undef, undef, .int .i64 0, .int .i64 0, .pointer (some ⟨r9, 0, none⟩), .pointer (some ⟨r25, 0, none⟩), undef, undef, .int .i64 y, .int .i64 s, .bool (rightB y s), .bool false, .int .i64 s, .agg #[.bool (sg s), .slice A3 (nd s) c4], .agg #[.bool (sg (pow2 40)), .slice A5 (nd (pow2 40)) c6], .agg #[.bool (sg (s * (pow2 40))), .slice A7 (nd (s * (pow2 40))) c8], .int .i64 y, .agg #[.bool (sg y), .slice A12 (nd y) c13], .int .i64 y, .agg #[.bool (sg y), .slice A14 (nd y) c15], .agg #[.bool (sg (y * y)), .slice A16 (nd (y * y)) c17], .agg #[.bool (sg (-(y * y))), .slice A18 (nd (-(y * y))) c19], .agg #[.bool (sg (s * (pow2 40))), .slice A7 (nd (s * (pow2 40))) c8], .agg #[.bool (sg (fl (-(y * y)) (s * (pow2 40)))), .slice A20 (nd (fl (-(y * y)) (s * (pow2 40)))) c21], .agg #[.bool (sg (-(fl (-(y * y)) (s * (pow2 40))))), .slice A26 (nd (-(fl (-(y * y)) (s * (pow2 40))))) c27], undef, undef, undef, undef, undef, undef, undef, undef, undef, undef] : Array Value) = #[.int .i64 y, .int .i64 s, undef, undef, .int .i64 0, .int .i64 0, .pointer (some ⟨r9, 0, none⟩), .pointer (some ⟨(ρ10 0), 0, none⟩), undef, undef, .int .i64 y, .int .i64 s, .bool (rightB y s), .bool false, .int .i64 s, .agg #[.bool (sg s), .slice A3 (nd s) c4], .agg #[.bool (sg (pow2 40)), .slice A5 (nd (pow2 40)) c6], .agg #[.bool (sg (s * (pow2 40))), .slice A7 (nd (s * (pow2 40))) c8], .int .i64 y, .agg #[.bool (sg y), .slice ((α11 0).1) (nd y) ((α11 0).2)], .int .i64 y, .agg #[.bool (sg y), .slice ((α11 1).1) (nd y) ((α11 1).2)], .agg #[.bool (sg (y * y)), .slice ((α11 2).1) (nd (y * y)) ((α11 2).2)], .agg #[.bool (sg (-(y * y))), .slice ((α11 3).1) (nd (-(y * y))) ((α11 3).2)], .agg #[.bool (sg (s * (pow2 40))), .slice A7 (nd (s * (pow2 40))) c8], .agg #[.bool (sg (fl (-(y * y)) (s * (pow2 40)))), .slice ((α11 4).1) (nd (fl (-(y * y)) (s * (pow2 40)))) ((α11 4).2)], .agg #[.bool (sg (-(fl (-(y * y)) (s * (pow2 40))))), .slice ((α11 5).1) (nd (-(fl (-(y * y)) (s * (pow2 40))))) ((α11 5).2)], undef, undef, undef, undef, undef, undef, undef, undef, undef, undef] ∧ ([(r9, [.bool (sg (s * (pow2 40))), .slice A7 (nd (s * (pow2 40))) c8]), (r25, [.bool (sg (-(fl (-(y * y)) (s * (pow2 40))))), .slice A26 (nd (-(fl (-(y * y)) (s * (pow2 40))))) c27])] : Blks) = [(r9, [.bool (sg (s * (pow2 40))), .slice A7 (nd (s * (pow2 40))) c8]), ((ρ10 0), [.bool (sg (-(fl (-(y * y)) (s * (pow2 40))))), .slice ((α11 5).1) (nd (-(fl (-(y * y)) (s * (pow2 40))))) ((α11 5).2)])] ∧ ([(A3, c4, s), (A5, c6, pow2 40), (A7, c8, s * (pow2 40)), (A12, c13, y), (A14, c15, y), (A16, c17, y * y), (A18, c19, -(y * y)), (A20, c21, fl (-(y * y)) (s * (pow2 40))), (A26, c27, -(fl (-(y * y)) (s * (pow2 40))))] : Bigs) = [(A3, c4, s), (A5, c6, pow2 40), (A7, c8, s * (pow2 40)), ((α11 0).1, (α11 0).2, y), ((α11 1).1, (α11 1).2, y), ((α11 2).1, (α11 2).2, y * y), ((α11 3).1, (α11 3).2, -(y * y)), ((α11 4).1, (α11 4).2, fl (-(y * y)) (s * (pow2 40))), ((α11 5).1, (α11 5).2, -(fl (-(y * y)) (s * (pow2 40))))])))))) ∧ (∀ r28 : Nat, CallB Tryd.prog w [(r9, [.bool (sg (s * (pow2 40))), .slice A7 (nd (s * (pow2 40))) c8]), (r28, [.bool false, .slice none 0 0])] [(A3, c4, s), (A5, c6, pow2 40), (A7, c8, s * (pow2 40)), (A12, c13, y), (A14, c15, y), (A16, c17, y * y), (A18, c19, -(y * y))] 69 #[.agg #[.bool (sg (-(y * y))), .slice A18 (nd (-(y * y))) c19], .agg #[.bool (sg (s * (pow2 40))), .slice A7 (nd (s * (pow2 40))) c8]] (fl (-(y * y)) (s * (pow2 40))) ∧ (∀ (A29 : Option Addr) (c30 : Nat), CallB Tryd.prog w [(r9, [.bool (sg (s * (pow2 40))), .slice A7 (nd (s * (pow2 40))) c8]), (r28, [.bool false, .slice none 0 0])] [(A3, c4, s), (A5, c6, pow2 40), (A7, c8, s * (pow2 40)), (A12, c13, y), (A14, c15, y), (A16, c17, y * y), (A18, c19, -(y * y)), (A29, c30, fl (-(y * y)) (s * (pow2 40)))] 68 #[.agg #[.bool (sg (fl (-(y * y)) (s * (pow2 40)))), .slice A29 (nd (fl (-(y * y)) (s * (pow2 40)))) c30]] (-(fl (-(y * y)) (s * (pow2 40)))) ∧ (∀ (A31 : Option Addr) (c32 : Nat), (r28 = r28 ∧ (r28 = r28 ∧ (True))) ∧ ((∃ (ρ10 : Nat → Nat) (α11 : Nat → Option Addr × Nat), (#[.int .i64 y, .int .i64 s, undef, undef, .int .i64 0, .int .i64 0, .pointer (some ⟨r9, 0, none⟩), .pointer (some ⟨r28, 0, none⟩), undef, undef, .int .i64 y, .int .i64 s, .bool (rightB y s), .bool false, .int .i64 s, .agg #[.bool (sg s), .slice A3 (nd s) c4], .agg #[.bool (sg (pow2 40)), .slice A5 (nd (pow2 40)) c6], .agg #[.bool (sg (s * (pow2 40))), .slice A7 (nd (s * (pow2 40))) c8], .int .i64 y, .agg #[.bool (sg y), .slice A12 (nd y) c13], .int .i64 y, .agg #[.bool (sg y), .slice A14 (nd y) c15], .agg #[.bool (sg (y * y)), .slice A16 (nd (y * y)) c17], .agg #[.bool (sg (-(y * y))), .slice A18 (nd (-(y * y))) c19], .agg #[.bool (sg (s * (pow2 40))), .slice A7 (nd (s * (pow2 40))) c8], .agg #[.bool (sg (fl (-(y * y)) (s * (pow2 40)))), .slice A29 (nd (fl (-(y * y)) (s * (pow2 40)))) c30], .agg #[.bool (sg (-(fl (-(y * y)) (s * (pow2 40))))), .slice A31 (nd (-(fl (-(y * y)) (s * (pow2 40))))) c32], undef, undef, undef, undef, undef, undef, undef, undef, undef, undef] : Array Value) = #[.int .i64 y, .int .i64 s, undef, undef, .int .i64 0, .int .i64 0, .pointer (some ⟨r9, 0, none⟩), .pointer (some ⟨(ρ10 0), 0, none⟩), undef, undef, .int .i64 y, .int .i64 s, .bool (rightB y s), .bool false, .int .i64 s, .agg #[.bool (sg s), .slice A3 (nd s) c4], .agg #[.bool (sg (pow2 40)), .slice A5 (nd (pow2 40)) c6], .agg #[.bool (sg (s * (pow2 40))), .slice A7 (nd (s * (pow2 40))) c8], .int .i64 y, .agg #[.bool (sg y), .slice ((α11 0).1) (nd y) ((α11 0).2)], .int .i64 y, .agg #[.bool (sg y), .slice ((α11 1).1) (nd y) ((α11 1).2)], .agg #[.bool (sg (y * y)), .slice ((α11 2).1) (nd (y * y)) ((α11 2).2)], .agg #[.bool (sg (-(y * y))), .slice ((α11 3).1) (nd (-(y * y))) ((α11 3).2)], .agg #[.bool (sg (s * (pow2 40))), .slice A7 (nd (s * (pow2 40))) c8], .agg #[.bool (sg (fl (-(y * y)) (s * (pow2 40)))), .slice ((α11 4).1) (nd (fl (-(y * y)) (s * (pow2 40)))) ((α11 4).2)], .agg #[.bool (sg (-(fl (-(y * y)) (s * (pow2 40))))), .slice ((α11 5).1) (nd (-(fl (-(y * y)) (s * (pow2 40))))) ((α11 5).2)], undef, undef, undef, undef, undef, undef, undef, undef, undef, undef] ∧ ([(r9, [.bool (sg (s * (pow2 40))), .slice A7 (nd (s * (pow2 40))) c8]), (r28, [.bool (sg (-(fl (-(y * y)) (s * (pow2 40))))), .slice A31 (nd (-(fl (-(y * y)) (s * (pow2 40))))) c32])] : Blks) = [(r9, [.bool (sg (s * (pow2 40))), .slice A7 (nd (s * (pow2 40))) c8]), ((ρ10 0), [.bool (sg (-(fl (-(y * y)) (s * (pow2 40))))), .slice ((α11 5).1) (nd (-(fl (-(y * y)) (s * (pow2 40))))) ((α11 5).2)])] ∧ ([(A3, c4, s), (A5, c6, pow2 40), (A7, c8, s * (pow2 40)), (A12, c13, y), (A14, c15, y), (A16, c17, y * y), (A18, c19, -(y * y)), (A29, c30, fl (-(y * y)) (s * (pow2 40))), (A31, c32, -(fl (-(y * y)) (s * (pow2 40))))] : Bigs) = [(A3, c4, s), (A5, c6, pow2 40), (A7, c8, s * (pow2 40)), ((α11 0).1, (α11 0).2, y), ((α11 1).1, (α11 1).2, y), ((α11 2).1, (α11 2).2, y * y), ((α11 3).1, (α11 3).2, -(y * y)), ((α11 4).1, (α11 4).2, fl (-(y * y)) (s * (pow2 40))), ((α11 5).1, (α11 5).2, -(fl (-(y * y)) (s * (pow2 40))))]))))))) ∧ (∀ r33 : Nat, CallB Tryd.prog w [(r9, [.bool (sg (s * (pow2 40))), .slice A7 (nd (s * (pow2 40))) c8]), (r33, [.bool false, .slice none 0 0])] [(A3, c4, s), (A5, c6, pow2 40), (A7, c8, s * (pow2 40)), (A12, c13, y), (A14, c15, y), (A16, c17, y * y)] 68 #[.agg #[.bool (sg (y * y)), .slice A16 (nd (y * y)) c17]] (-(y * y)) ∧ (∀ (A34 : Option Addr) (c35 : Nat), CallB Tryd.prog w [(r9, [.bool (sg (s * (pow2 40))), .slice A7 (nd (s * (pow2 40))) c8]), (r33, [.bool false, .slice none 0 0])] [(A3, c4, s), (A5, c6, pow2 40), (A7, c8, s * (pow2 40)), (A12, c13, y), (A14, c15, y), (A16, c17, y * y), (A34, c35, -(y * y))] 69 #[.agg #[.bool (sg (-(y * y))), .slice A34 (nd (-(y * y))) c35], .agg #[.bool (sg (s * (pow2 40))), .slice A7 (nd (s * (pow2 40))) c8]] (fl (-(y * y)) (s * (pow2 40))) ∧ (∀ (A36 : Option Addr) (c37 : Nat), CallB Tryd.prog w [(r9, [.bool (sg (s * (pow2 40))), .slice A7 (nd (s * (pow2 40))) c8]), (r33, [.bool false, .slice none 0 0])] [(A3, c4, s), (A5, c6, pow2 40), (A7, c8, s * (pow2 40)), (A12, c13, y), (A14, c15, y), (A16, c17, y * y), (A34, c35, -(y * y)), (A36, c37, fl (-(y * y)) (s * (pow2 40)))] 68 #[.agg #[.bool (sg (fl (-(y * y)) (s * (pow2 40)))), .slice A36 (nd (fl (-(y * y)) (s * (pow2 40)))) c37]] (-(fl (-(y * y)) (s * (pow2 40)))) ∧ (∀ (A38 : Option Addr) (c39 : Nat), (r33 = r33 ∧ (r33 = r33 ∧ (True))) ∧ ((∃ (ρ10 : Nat → Nat) (α11 : Nat → Option Addr × Nat), (#[.int .i64 y, .int .i64 s, undef, undef, .int .i64 0, .int .i64 0, .pointer (some ⟨r9, 0, none⟩), .pointer (some ⟨r33, 0, none⟩), undef, undef, .int .i64 y, .int .i64 s, .bool (rightB y s), .bool false, .int .i64 s, .agg #[.bool (sg s), .slice A3 (nd s) c4], .agg #[.bool (sg (pow2 40)), .slice A5 (nd (pow2 40)) c6], .agg #[.bool (sg (s * (pow2 40))), .slice A7 (nd (s * (pow2 40))) c8], .int .i64 y, .agg #[.bool (sg y), .slice A12 (nd y) c13], .int .i64 y, .agg #[.bool (sg y), .slice A14 (nd y) c15], .agg #[.bool (sg (y * y)), .slice A16 (nd (y * y)) c17], .agg #[.bool (sg (-(y * y))), .slice A34 (nd (-(y * y))) c35], .agg #[.bool (sg (s * (pow2 40))), .slice A7 (nd (s * (pow2 40))) c8], .agg #[.bool (sg (fl (-(y * y)) (s * (pow2 40)))), .slice A36 (nd (fl (-(y * y)) (s * (pow2 40)))) c37], .agg #[.bool (sg (-(fl (-(y * y)) (s * (pow2 40))))), .slice A38 (nd (-(fl (-(y * y)) (s * (pow2 40))))) c39], undef, undef, undef, undef, undef, undef, undef, undef, undef, undef] : Array Value) = #[.int .i64 y, .int .i64 s, undef, undef, .int .i64 0, .int .i64 0, .pointer (some ⟨r9, 0, none⟩), .pointer (some ⟨(ρ10 0), 0, none⟩), undef, undef, .int .i64 y, .int .i64 s, .bool (rightB y s), .bool false, .int .i64 s, .agg #[.bool (sg s), .slice A3 (nd s) c4], .agg #[.bool (sg (pow2 40)), .slice A5 (nd (pow2 40)) c6], .agg #[.bool (sg (s * (pow2 40))), .slice A7 (nd (s * (pow2 40))) c8], .int .i64 y, .agg #[.bool (sg y), .slice ((α11 0).1) (nd y) ((α11 0).2)], .int .i64 y, .agg #[.bool (sg y), .slice ((α11 1).1) (nd y) ((α11 1).2)], .agg #[.bool (sg (y * y)), .slice ((α11 2).1) (nd (y * y)) ((α11 2).2)], .agg #[.bool (sg (-(y * y))), .slice ((α11 3).1) (nd (-(y * y))) ((α11 3).2)], .agg #[.bool (sg (s * (pow2 40))), .slice A7 (nd (s * (pow2 40))) c8], .agg #[.bool (sg (fl (-(y * y)) (s * (pow2 40)))), .slice ((α11 4).1) (nd (fl (-(y * y)) (s * (pow2 40)))) ((α11 4).2)], .agg #[.bool (sg (-(fl (-(y * y)) (s * (pow2 40))))), .slice ((α11 5).1) (nd (-(fl (-(y * y)) (s * (pow2 40))))) ((α11 5).2)], undef, undef, undef, undef, undef, undef, undef, undef, undef, undef] ∧ ([(r9, [.bool (sg (s * (pow2 40))), .slice A7 (nd (s * (pow2 40))) c8]), (r33, [.bool (sg (-(fl (-(y * y)) (s * (pow2 40))))), .slice A38 (nd (-(fl (-(y * y)) (s * (pow2 40))))) c39])] : Blks) = [(r9, [.bool (sg (s * (pow2 40))), .slice A7 (nd (s * (pow2 40))) c8]), ((ρ10 0), [.bool (sg (-(fl (-(y * y)) (s * (pow2 40))))), .slice ((α11 5).1) (nd (-(fl (-(y * y)) (s * (pow2 40))))) ((α11 5).2)])] ∧ ([(A3, c4, s), (A5, c6, pow2 40), (A7, c8, s * (pow2 40)), (A12, c13, y), (A14, c15, y), (A16, c17, y * y), (A34, c35, -(y * y)), (A36, c37, fl (-(y * y)) (s * (pow2 40))), (A38, c39, -(fl (-(y * y)) (s * (pow2 40))))] : Bigs) = [(A3, c4, s), (A5, c6, pow2 40), (A7, c8, s * (pow2 40)), ((α11 0).1, (α11 0).2, y), ((α11 1).1, (α11 1).2, y), ((α11 2).1, (α11 2).2, y * y), ((α11 3).1, (α11 3).2, -(y * y)), ((α11 4).1, (α11 4).2, fl (-(y * y)) (s * (pow2 40))), ((α11 5).1, (α11 5).2, -(fl (-(y * y)) (s * (pow2 40))))])))))))) ∧ (∀ r40 : Nat, CallB Tryd.prog w [(r9, [.bool (sg (s * (pow2 40))), .slice A7 (nd (s * (pow2 40))) c8]), (r40, [.bool false, .slice none 0 0])] [(A3, c4, s), (A5, c6, pow2 40), (A7, c8, s * (pow2 40)), (A12, c13, y), (A14, c15, y)] 54 #[.agg #[.bool (sg y), .slice A12 (nd y) c13], .agg #[.bool (sg y), .slice A14 (nd y) c15]] (y * y) ∧ (∀ (A41 : Option Addr) (c42 : Nat), CallB Tryd.prog w [(r9, [.bool (sg (s * (pow2 40))), .slice A7 (nd (s * (pow2 40))) c8]), (r40, [.bool false, .slice none 0 0])] [(A3, c4, s), (A5, c6, pow2 40), (A7, c8, s * (pow2 40)), (A12, c13, y), (A14, c15, y), (A41, c42, y * y)] 68 #[.agg #[.bool (sg (y * y)), .slice A41 (nd (y * y)) c42]] (-(y * y)) ∧ (∀ (A43 : Option Addr) (c44 : Nat), CallB Tryd.prog w [(r9, [.bool (sg (s * (pow2 40))), .slice A7 (nd (s * (pow2 40))) c8]), (r40, [.bool false, .slice none 0 0])] [(A3, c4, s), (A5, c6, pow2 40), (A7, c8, s * (pow2 40)), (A12, c13, y), (A14, c15, y), (A41, c42, y * y), (A43, c44, -(y * y))] 69 #[.agg #[.bool (sg (-(y * y))), .slice A43 (nd (-(y * y))) c44], .agg #[.bool (sg (s * (pow2 40))), .slice A7 (nd (s * (pow2 40))) c8]] (fl (-(y * y)) (s * (pow2 40))) ∧ (∀ (A45 : Option Addr) (c46 : Nat), CallB Tryd.prog w [(r9, [.bool (sg (s * (pow2 40))), .slice A7 (nd (s * (pow2 40))) c8]), (r40, [.bool false, .slice none 0 0])] [(A3, c4, s), (A5, c6, pow2 40), (A7, c8, s * (pow2 40)), (A12, c13, y), (A14, c15, y), (A41, c42, y * y), (A43, c44, -(y * y)), (A45, c46, fl (-(y * y)) (s * (pow2 40)))] 68 #[.agg #[.bool (sg (fl (-(y * y)) (s * (pow2 40)))), .slice A45 (nd (fl (-(y * y)) (s * (pow2 40)))) c46]] (-(fl (-(y * y)) (s * (pow2 40)))) ∧ (∀ (A47 : Option Addr) (c48 : Nat), (r40 = r40 ∧ (r40 = r40 ∧ (True))) ∧ ((∃ (ρ10 : Nat → Nat) (α11 : Nat → Option Addr × Nat), (#[.int .i64 y, .int .i64 s, undef, undef, .int .i64 0, .int .i64 0, .pointer (some ⟨r9, 0, none⟩), .pointer (some ⟨r40, 0, none⟩), undef, undef, .int .i64 y, .int .i64 s, .bool (rightB y s), .bool false, .int .i64 s, .agg #[.bool (sg s), .slice A3 (nd s) c4], .agg #[.bool (sg (pow2 40)), .slice A5 (nd (pow2 40)) c6], .agg #[.bool (sg (s * (pow2 40))), .slice A7 (nd (s * (pow2 40))) c8], .int .i64 y, .agg #[.bool (sg y), .slice A12 (nd y) c13], .int .i64 y, .agg #[.bool (sg y), .slice A14 (nd y) c15], .agg #[.bool (sg (y * y)), .slice A41 (nd (y * y)) c42], .agg #[.bool (sg (-(y * y))), .slice A43 (nd (-(y * y))) c44], .agg #[.bool (sg (s * (pow2 40))), .slice A7 (nd (s * (pow2 40))) c8], .agg #[.bool (sg (fl (-(y * y)) (s * (pow2 40)))), .slice A45 (nd (fl (-(y * y)) (s * (pow2 40)))) c46], .agg #[.bool (sg (-(fl (-(y * y)) (s * (pow2 40))))), .slice A47 (nd (-(fl (-(y * y)) (s * (pow2 40))))) c48], undef, undef, undef, undef, undef, undef, undef, undef, undef, undef] : Array Value) = #[.int .i64 y, .int .i64 s, undef, undef, .int .i64 0, .int .i64 0, .pointer (some ⟨r9, 0, none⟩), .pointer (some ⟨(ρ10 0), 0, none⟩), undef, undef, .int .i64 y, .int .i64 s, .bool (rightB y s), .bool false, .int .i64 s, .agg #[.bool (sg s), .slice A3 (nd s) c4], .agg #[.bool (sg (pow2 40)), .slice A5 (nd (pow2 40)) c6], .agg #[.bool (sg (s * (pow2 40))), .slice A7 (nd (s * (pow2 40))) c8], .int .i64 y, .agg #[.bool (sg y), .slice ((α11 0).1) (nd y) ((α11 0).2)], .int .i64 y, .agg #[.bool (sg y), .slice ((α11 1).1) (nd y) ((α11 1).2)], .agg #[.bool (sg (y * y)), .slice ((α11 2).1) (nd (y * y)) ((α11 2).2)], .agg #[.bool (sg (-(y * y))), .slice ((α11 3).1) (nd (-(y * y))) ((α11 3).2)], .agg #[.bool (sg (s * (pow2 40))), .slice A7 (nd (s * (pow2 40))) c8], .agg #[.bool (sg (fl (-(y * y)) (s * (pow2 40)))), .slice ((α11 4).1) (nd (fl (-(y * y)) (s * (pow2 40)))) ((α11 4).2)], .agg #[.bool (sg (-(fl (-(y * y)) (s * (pow2 40))))), .slice ((α11 5).1) (nd (-(fl (-(y * y)) (s * (pow2 40))))) ((α11 5).2)], undef, undef, undef, undef, undef, undef, undef, undef, undef, undef] ∧ ([(r9, [.bool (sg (s * (pow2 40))), .slice A7 (nd (s * (pow2 40))) c8]), (r40, [.bool (sg (-(fl (-(y * y)) (s * (pow2 40))))), .slice A47 (nd (-(fl (-(y * y)) (s * (pow2 40))))) c48])] : Blks) = [(r9, [.bool (sg (s * (pow2 40))), .slice A7 (nd (s * (pow2 40))) c8]), ((ρ10 0), [.bool (sg (-(fl (-(y * y)) (s * (pow2 40))))), .slice ((α11 5).1) (nd (-(fl (-(y * y)) (s * (pow2 40))))) ((α11 5).2)])] ∧ ([(A3, c4, s), (A5, c6, pow2 40), (A7, c8, s * (pow2 40)), (A12, c13, y), (A14, c15, y), (A41, c42, y * y), (A43, c44, -(y * y)), (A45, c46, fl (-(y * y)) (s * (pow2 40))), (A47, c48, -(fl (-(y * y)) (s * (pow2 40))))] : Bigs) = [(A3, c4, s), (A5, c6, pow2 40), (A7, c8, s * (pow2 40)), ((α11 0).1, (α11 0).2, y), ((α11 1).1, (α11 1).2, y), ((α11 2).1, (α11 2).2, y * y), ((α11 3).1, (α11 3).2, -(y * y)), ((α11 4).1, (α11 4).2, fl (-(y * y)) (s * (pow2 40))), ((α11 5).1, (α11 5).2, -(fl (-(y * y)) (s * (pow2 40))))]))))))))) ∧ (∀ r49 : Nat, CallB Tryd.prog w [(r9, [.bool (sg (s * (pow2 40))), .slice A7 (nd (s * (pow2 40))) c8]), (r49, [.bool false, .slice none 0 0])] [(A3, c4, s), (A5, c6, pow2 40), (A7, c8, s * (pow2 40)), (A12, c13, y)] 52 #[.int .i64 y] y ∧ (∀ (A50 : Option Addr) (c51 : Nat), CallB Tryd.prog w [(r9, [.bool (sg (s * (pow2 40))), .slice A7 (nd (s * (pow2 40))) c8]), (r49, [.bool false, .slice none 0 0])] [(A3, c4, s), (A5, c6, pow2 40), (A7, c8, s * (pow2 40)), (A12, c13, y), (A50, c51, y)] 54 #[.agg #[.bool (sg y), .slice A12 (nd y) c13], .agg #[.bool (sg y), .slice A50 (nd y) c51]] (y * y) ∧ (∀ (A52 : Option Addr) (c53 : Nat), CallB Tryd.prog w [(r9, [.bool (sg (s * (pow2 40))), .slice A7 (nd (s * (pow2 40))) c8]), (r49, [.bool false, .slice none 0 0])] [(A3, c4, s), (A5, c6, pow2 40), (A7, c8, s * (pow2 40)), (A12, c13, y), (A50, c51, y), (A52, c53, y * y)] 68 #[.agg #[.bool (sg (y * y)), .slice A52 (nd (y * y)) c53]] (-(y * y)) ∧ (∀ (A54 : Option Addr) (c55 : Nat), CallB Tryd.prog w [(r9, [.bool (sg (s * (pow2 40))), .slice A7 (nd (s * (pow2 40))) c8]), (r49, [.bool false, .slice none 0 0])] [(A3, c4, s), (A5, c6, pow2 40), (A7, c8, s * (pow2 40)), (A12, c13, y), (A50, c51, y), (A52, c53, y * y), (A54, c55, -(y * y))] 69 #[.agg #[.bool (sg (-(y * y))), .slice A54 (nd (-(y * y))) c55], .agg #[.bool (sg (s * (pow2 40))), .slice A7 (nd (s * (pow2 40))) c8]] (fl (-(y * y)) (s * (pow2 40))) ∧ (∀ (A56 : Option Addr) (c57 : Nat), CallB Tryd.prog w [(r9, [.bool (sg (s * (pow2 40))), .slice A7 (nd (s * (pow2 40))) c8]), (r49, [.bool false, .slice none 0 0])] [(A3, c4, s), (A5, c6, pow2 40), (A7, c8, s * (pow2 40)), (A12, c13, y), (A50, c51, y), (A52, c53, y * y), (A54, c55, -(y * y)), (A56, c57, fl (-(y * y)) (s * (pow2 40)))] 68 #[.agg #[.bool (sg (fl (-(y * y)) (s * (pow2 40)))), .slice A56 (nd (fl (-(y * y)) (s * (pow2 40)))) c57]] (-(fl (-(y * y)) (s * (pow2 40)))) ∧ (∀ (A58 : Option Addr) (c59 : Nat), (r49 = r49 ∧ (r49 = r49 ∧ (True))) ∧ ((∃ (ρ10 : Nat → Nat) (α11 : Nat → Option Addr × Nat), (#[.int .i64 y, .int .i64 s, undef, undef, .int .i64 0, .int .i64 0, .pointer (some ⟨r9, 0, none⟩), .pointer (some ⟨r49, 0, none⟩), undef, undef, .int .i64 y, .int .i64 s, .bool (rightB y s), .bool false, .int .i64 s, .agg #[.bool (sg s), .slice A3 (nd s) c4], .agg #[.bool (sg (pow2 40)), .slice A5 (nd (pow2 40)) c6], .agg #[.bool (sg (s * (pow2 40))), .slice A7 (nd (s * (pow2 40))) c8], .int .i64 y, .agg #[.bool (sg y), .slice A12 (nd y) c13], .int .i64 y, .agg #[.bool (sg y), .slice A50 (nd y) c51], .agg #[.bool (sg (y * y)), .slice A52 (nd (y * y)) c53], .agg #[.bool (sg (-(y * y))), .slice A54 (nd (-(y * y))) c55], .agg #[.bool (sg (s * (pow2 40))), .slice A7 (nd (s * (pow2 40))) c8], .agg #[.bool (sg (fl (-(y * y)) (s * (pow2 40)))), .slice A56 (nd (fl (-(y * y)) (s * (pow2 40)))) c57], .agg #[.bool (sg (-(fl (-(y * y)) (s * (pow2 40))))), .slice A58 (nd (-(fl (-(y * y)) (s * (pow2 40))))) c59], undef, undef, undef, undef, undef, undef, undef, undef, undef, undef] : Array Value) = #[.int .i64 y, .int .i64 s, undef, undef, .int .i64 0, .int .i64 0, .pointer (some ⟨r9, 0, none⟩), .pointer (some ⟨(ρ10 0), 0, none⟩), undef, undef, .int .i64 y, .int .i64 s, .bool (rightB y s), .bool false, .int .i64 s, .agg #[.bool (sg s), .slice A3 (nd s) c4], .agg #[.bool (sg (pow2 40)), .slice A5 (nd (pow2 40)) c6], .agg #[.bool (sg (s * (pow2 40))), .slice A7 (nd (s * (pow2 40))) c8], .int .i64 y, .agg #[.bool (sg y), .slice ((α11 0).1) (nd y) ((α11 0).2)], .int .i64 y, .agg #[.bool (sg y), .slice ((α11 1).1) (nd y) ((α11 1).2)], .agg #[.bool (sg (y * y)), .slice ((α11 2).1) (nd (y * y)) ((α11 2).2)], .agg #[.bool (sg (-(y * y))), .slice ((α11 3).1) (nd (-(y * y))) ((α11 3).2)], .agg #[.bool (sg (s * (pow2 40))), .slice A7 (nd (s * (pow2 40))) c8], .agg #[.bool (sg (fl (-(y * y)) (s * (pow2 40)))), .slice ((α11 4).1) (nd (fl (-(y * y)) (s * (pow2 40)))) ((α11 4).2)], .agg #[.bool (sg (-(fl (-(y * y)) (s * (pow2 40))))), .slice ((α11 5).1) (nd (-(fl (-(y * y)) (s * (pow2 40))))) ((α11 5).2)], undef, undef, undef, undef, undef, undef, undef, undef, undef, undef] ∧ ([(r9, [.bool (sg (s * (pow2 40))), .slice A7 (nd (s * (pow2 40))) c8]), (r49, [.bool (sg (-(fl (-(y * y)) (s * (pow2 40))))), .slice A58 (nd (-(fl (-(y * y)) (s * (pow2 40))))) c59])] : Blks) = [(r9, [.bool (sg (s * (pow2 40))), .slice A7 (nd (s * (pow2 40))) c8]), ((ρ10 0), [.bool (sg (-(fl (-(y * y)) (s * (pow2 40))))), .slice ((α11 5).1) (nd (-(fl (-(y * y)) (s * (pow2 40))))) ((α11 5).2)])] ∧ ([(A3, c4, s), (A5, c6, pow2 40), (A7, c8, s * (pow2 40)), (A12, c13, y), (A50, c51, y), (A52, c53, y * y), (A54, c55, -(y * y)), (A56, c57, fl (-(y * y)) (s * (pow2 40))), (A58, c59, -(fl (-(y * y)) (s * (pow2 40))))] : Bigs) = [(A3, c4, s), (A5, c6, pow2 40), (A7, c8, s * (pow2 40)), ((α11 0).1, (α11 0).2, y), ((α11 1).1, (α11 1).2, y), ((α11 2).1, (α11 2).2, y * y), ((α11 3).1, (α11 3).2, -(y * y)), ((α11 4).1, (α11 4).2, fl (-(y * y)) (s * (pow2 40))), ((α11 5).1, (α11 5).2, -(fl (-(y * y)) (s * (pow2 40))))])))))))))) ∧ (∀ r60 : Nat, CallB Tryd.prog w [(r9, [.bool (sg (s * (pow2 40))), .slice A7 (nd (s * (pow2 40))) c8]), (r60, [.bool false, .slice none 0 0])] [(A3, c4, s), (A5, c6, pow2 40), (A7, c8, s * (pow2 40))] 52 #[.int .i64 y] y ∧ (∀ (A61 : Option Addr) (c62 : Nat), CallB Tryd.prog w [(r9, [.bool (sg (s * (pow2 40))), .slice A7 (nd (s * (pow2 40))) c8]), (r60, [.bool false, .slice none 0 0])] [(A3, c4, s), (A5, c6, pow2 40), (A7, c8, s * (pow2 40)), (A61, c62, y)] 52 #[.int .i64 y] y ∧ (∀ (A63 : Option Addr) (c64 : Nat), CallB Tryd.prog w [(r9, [.bool (sg (s * (pow2 40))), .slice A7 (nd (s * (pow2 40))) c8]), (r60, [.bool false, .slice none 0 0])] [(A3, c4, s), (A5, c6, pow2 40), (A7, c8, s * (pow2 40)), (A61, c62, y), (A63, c64, y)] 54 #[.agg #[.bool (sg y), .slice A61 (nd y) c62], .agg #[.bool (sg y), .slice A63 (nd y) c64]] (y * y) ∧ (∀ (A65 : Option Addr) (c66 : Nat), CallB Tryd.prog w [(r9, [.bool (sg (s * (pow2 40))), .slice A7 (nd (s * (pow2 40))) c8]), (r60, [.bool false, .slice none 0 0])] [(A3, c4, s), (A5, c6, pow2 40), (A7, c8, s * (pow2 40)), (A61, c62, y), (A63, c64, y), (A65, c66, y * y)] 68 #[.agg #[.bool (sg (y * y)), .slice A65 (nd (y * y)) c66]] (-(y * y)) ∧ (∀ (A67 : Option Addr) (c68 : Nat), CallB Tryd.prog w [(r9, [.bool (sg (s * (pow2 40))), .slice A7 (nd (s * (pow2 40))) c8]), (r60, [.bool false, .slice none 0 0])] [(A3, c4, s), (A5, c6, pow2 40), (A7, c8, s * (pow2 40)), (A61, c62, y), (A63, c64, y), (A65, c66, y * y), (A67, c68, -(y * y))] 69 #[.agg #[.bool (sg (-(y * y))), .slice A67 (nd (-(y * y))) c68], .agg #[.bool (sg (s * (pow2 40))), .slice A7 (nd (s * (pow2 40))) c8]] (fl (-(y * y)) (s * (pow2 40))) ∧ (∀ (A69 : Option Addr) (c70 : Nat), CallB Tryd.prog w [(r9, [.bool (sg (s * (pow2 40))), .slice A7 (nd (s * (pow2 40))) c8]), (r60, [.bool false, .slice none 0 0])] [(A3, c4, s), (A5, c6, pow2 40), (A7, c8, s * (pow2 40)), (A61, c62, y), (A63, c64, y), (A65, c66, y * y), (A67, c68, -(y * y)), (A69, c70, fl (-(y * y)) (s * (pow2 40)))] 68 #[.agg #[.bool (sg (fl (-(y * y)) (s * (pow2 40)))), .slice A69 (nd (fl (-(y * y)) (s * (pow2 40)))) c70]] (-(fl (-(y * y)) (s * (pow2 40)))) ∧ (∀ (A71 : Option Addr) (c72 : Nat), (r60 = r60 ∧ (r60 = r60 ∧ (True))) ∧ ((∃ (ρ10 : Nat → Nat) (α11 : Nat → Option Addr × Nat), (#[.int .i64 y, .int .i64 s, undef, undef, .int .i64 0, .int .i64 0, .pointer (some ⟨r9, 0, none⟩), .pointer (some ⟨r60, 0, none⟩), undef, undef, .int .i64 y, .int .i64 s, .bool (rightB y s), .bool false, .int .i64 s, .agg #[.bool (sg s), .slice A3 (nd s) c4], .agg #[.bool (sg (pow2 40)), .slice A5 (nd (pow2 40)) c6], .agg #[.bool (sg (s * (pow2 40))), .slice A7 (nd (s * (pow2 40))) c8], .int .i64 y, .agg #[.bool (sg y), .slice A61 (nd y) c62], .int .i64 y, .agg #[.bool (sg y), .slice A63 (nd y) c64], .agg #[.bool (sg (y * y)), .slice A65 (nd (y * y)) c66], .agg #[.bool (sg (-(y * y))), .slice A67 (nd (-(y * y))) c68], .agg #[.bool (sg (s * (pow2 40))), .slice A7 (nd (s * (pow2 40))) c8], .agg #[.bool (sg (fl (-(y * y)) (s * (pow2 40)))), .slice A69 (nd (fl (-(y * y)) (s * (pow2 40)))) c70], .agg #[.bool (sg (-(fl (-(y * y)) (s * (pow2 40))))), .slice A71 (nd (-(fl (-(y * y)) (s * (pow2 40))))) c72], undef, undef, undef, undef, undef, undef, undef, undef, undef, undef] : Array Value) = #[.int .i64 y, .int .i64 s, undef, undef, .int .i64 0, .int .i64 0, .pointer (some ⟨r9, 0, none⟩), .pointer (some ⟨(ρ10 0), 0, none⟩), undef, undef, .int .i64 y, .int .i64 s, .bool (rightB y s), .bool false, .int .i64 s, .agg #[.bool (sg s), .slice A3 (nd s) c4], .agg #[.bool (sg (pow2 40)), .slice A5 (nd (pow2 40)) c6], .agg #[.bool (sg (s * (pow2 40))), .slice A7 (nd (s * (pow2 40))) c8], .int .i64 y, .agg #[.bool (sg y), .slice ((α11 0).1) (nd y) ((α11 0).2)], .int .i64 y, .agg #[.bool (sg y), .slice ((α11 1).1) (nd y) ((α11 1).2)], .agg #[.bool (sg (y * y)), .slice ((α11 2).1) (nd (y * y)) ((α11 2).2)], .agg #[.bool (sg (-(y * y))), .slice ((α11 3).1) (nd (-(y * y))) ((α11 3).2)], .agg #[.bool (sg (s * (pow2 40))), .slice A7 (nd (s * (pow2 40))) c8], .agg #[.bool (sg (fl (-(y * y)) (s * (pow2 40)))), .slice ((α11 4).1) (nd (fl (-(y * y)) (s * (pow2 40)))) ((α11 4).2)], .agg #[.bool (sg (-(fl (-(y * y)) (s * (pow2 40))))), .slice ((α11 5).1) (nd (-(fl (-(y * y)) (s * (pow2 40))))) ((α11 5).2)], undef, undef, undef, undef, undef, undef, undef, undef, undef, undef] ∧ ([(r9, [.bool (sg (s * (pow2 40))), .slice A7 (nd (s * (pow2 40))) c8]), (r60, [.bool (sg (-(fl (-(y * y)) (s * (pow2 40))))), .slice A71 (nd (-(fl (-(y * y)) (s * (pow2 40))))) c72])] : Blks) = [(r9, [.bool (sg (s * (pow2 40))), .slice A7 (nd (s * (pow2 40))) c8]), ((ρ10 0), [.bool (sg (-(fl (-(y * y)) (s * (pow2 40))))), .slice ((α11 5).1) (nd (-(fl (-(y * y)) (s * (pow2 40))))) ((α11 5).2)])] ∧ ([(A3, c4, s), (A5, c6, pow2 40), (A7, c8, s * (pow2 40)), (A61, c62, y), (A63, c64, y), (A65, c66, y * y), (A67, c68, -(y * y)), (A69, c70, fl (-(y * y)) (s * (pow2 40))), (A71, c72, -(fl (-(y * y)) (s * (pow2 40))))] : Bigs) = [(A3, c4, s), (A5, c6, pow2 40), (A7, c8, s * (pow2 40)), ((α11 0).1, (α11 0).2, y), ((α11 1).1, (α11 1).2, y), ((α11 2).1, (α11 2).2, y * y), ((α11 3).1, (α11 3).2, -(y * y)), ((α11 4).1, (α11 4).2, fl (-(y * y)) (s * (pow2 40))), ((α11 5).1, (α11 5).2, -(fl (-(y * y)) (s * (pow2 40))))]))))))))))) ∧ (∀ (ρ10 : Nat → Nat) (α11 : Nat → Option Addr × Nat), (ρ10 0) = (ρ10 0) ∧ CallB Tryd.prog w [(r9, [.bool (sg (s * (pow2 40))), .slice A7 (nd (s * (pow2 40))) c8]), ((ρ10 0), [.bool (sg (-(fl (-(y * y)) (s * (pow2 40))))), .slice ((α11 5).1) (nd (-(fl (-(y * y)) (s * (pow2 40))))) ((α11 5).2)])] [(A3, c4, s), (A5, c6, pow2 40), (A7, c8, s * (pow2 40)), ((α11 0).1, (α11 0).2, y), ((α11 1).1, (α11 1).2, y), ((α11 2).1, (α11 2).2, y * y), ((α11 3).1, (α11 3).2, -(y * y)), ((α11 4).1, (α11 4).2, fl (-(y * y)) (s * (pow2 40))), ((α11 5).1, (α11 5).2, -(fl (-(y * y)) (s * (pow2 40))))] 52 #[.int .i64 1000] 1000 ∧ (∀ (A78 : Option Addr) (c79 : Nat), CallV Tryd.prog w [(r9, [.bool (sg (s * (pow2 40))), .slice A7 (nd (s * (pow2 40))) c8]), ((ρ10 0), [.bool (sg (-(fl (-(y * y)) (s * (pow2 40))))), .slice ((α11 5).1) (nd (-(fl (-(y * y)) (s * (pow2 40))))) ((α11 5).2)])] [(A3, c4, s), (A5, c6, pow2 40), (A7, c8, s * (pow2 40)), ((α11 0).1, (α11 0).2, y), ((α11 1).1, (α11 1).2, y), ((α11 2).1, (α11 2).2, y * y), ((α11 3).1, (α11 3).2, -(y * y)), ((α11 4).1, (α11 4).2, fl (-(y * y)) (s * (pow2 40))), ((α11 5).1, (α11 5).2, -(fl (-(y * y)) (s * (pow2 40)))), (A78, c79, 1000)] 53 #[.agg #[.bool (sg (-(fl (-(y * y)) (s * (pow2 40))))), .slice ((α11 5).1) (nd (-(fl (-(y * y)) (s * (pow2 40))))) ((α11 5).2)], .agg #[.bool (sg 1000), .slice A78 (nd 1000) c79]] (.int .i64 (cmpZ (-(fl (-(y * y)) (s * (pow2 40)))) 1000)) ∧ (((decide ((cmpZ (-(fl (-(y * y)) (s * (pow2 40)))) 1000) > 0)) = true → (True) ∧ (LeafV R w [(r9, [.bool (sg (s * (pow2 40))), .slice A7 (nd (s * (pow2 40))) c8]), ((ρ10 0), [.bool (sg (-(fl (-(y * y)) (s * (pow2 40))))), .slice ((α11 5).1) (nd (-(fl (-(y * y)) (s * (pow2 40))))) ((α11 5).2)])] [(A3, c4, s), (A5, c6, pow2 40), (A7, c8, s * (pow2 40)), ((α11 0).1, (α11 0).2, y), ((α11 1).1, (α11 1).2, y), ((α11 2).1, (α11 2).2, y * y), ((α11 3).1, (α11 3).2, -(y * y)), ((α11 4).1, (α11 4).2, fl (-(y * y)) (s * (pow2 40))), ((α11 5).1, (α11 5).2, -(fl (-(y * y)) (s * (pow2 40)))), (A78, c79, 1000)] (.tuple #[.int .i64 0, .int .i64 2]))) ∧ ((decide ((cmpZ (-(fl (-(y * y)) (s * (pow2 40)))) 1000) > 0)) = false → (ρ10 0) = (ρ10 0) ∧ CallV Tryd.prog w [(r9, [.bool (sg (s * (pow2 40))), .slice A7 (nd (s * (pow2 40))) c8]), ((ρ10 0), [.bool (sg (-(fl (-(y * y)) (s * (pow2 40))))), .slice ((α11 5).1) (nd (-(fl (-(y * y)) (s * (pow2 40))))) ((α11 5).2)])] [(A3, c4, s), (A5, c6, pow2 40), (A7, c8, s * (pow2 40)), ((α11 0).1, (α11 0).2, y), ((α11 1).1, (α11 1).2, y), ((α11 2).1, (α11 2).2, y * y), ((α11 3).1, (α11 3).2, -(y * y)), ((α11 4).1, (α11 4).2, fl (-(y * y)) (s * (pow2 40))), ((α11 5).1, (α11 5).2, -(fl (-(y * y)) (s * (pow2 40)))), (A78, c79, 1000)] 70 #[.agg #[.bool (sg (-(fl (-(y * y)) (s * (pow2 40))))), .slice ((α11 5).1) (nd (-(fl (-(y * y)) (s * (pow2 40))))) ((α11 5).2)]] (.tuple #[.int .i64 (fitI (-(fl (-(y * y)) (s * (pow2 40))))), .int .i64 (errI (-(fl (-(y * y)) (s * (pow2 40)))))]) ∧ (True) ∧ (LeafV R w [(r9, [.bool (sg (s * (pow2 40))), .slice A7 (nd (s * (pow2 40))) c8]), ((ρ10 0), [.bool (sg (-(fl (-(y * y)) (s * (pow2 40))))), .slice ((α11 5).1) (nd (-(fl (-(y * y)) (s * (pow2 40))))) ((α11 5).2)])] [(A3, c4, s), (A5, c6, pow2 40), (A7, c8, s * (pow2 40)), ((α11 0).1, (α11 0).2, y), ((α11 1).1, (α11 1).2, y), ((α11 2).1, (α11 2).2, y * y), ((α11 3).1, (α11 3).2, -(y * y)), ((α11 4).1, (α11 4).2, fl (-(y * y)) (s * (pow2 40))), ((α11 5).1, (α11 5).2, -(fl (-(y * y)) (s * (pow2 40)))), (A78, c79, 1000)] (.tuple #[.int .i64 (fitI (-(fl (-(y * y)) (s * (pow2 40))))), .int .i64 0]))))))))))))) : Calls Tryd.prog 26 #[.int .i64 y, .int .i64 s] w R :=
  calls_of_plan (f := 26) (es := []) (c := Tryd.f26.body.getD .skip) (tmps := #[.int .i64 y, .int .i64 s, undef, undef, undef, undef, undef, undef, undef, undef, undef, undef, undef, undef, undef, undef, undef, undef, undef, undef, undef, undef, undef, undef, undef, undef, undef, undef, undef, undef, undef, undef, undef, undef, undef, undef, undef])
    (.s [.c, .c, .v, .v, .c, .c, .c, .c, .v, .v, .call (.bool (rightB y s)), .v, .c] (.split 13 (.s [.c, .c, .c, .v, .v, .c] (.ret [])) (.s [.c, .c, .c, .c, .v] (.big s (fun A3 c4 => .big (pow2 40) (fun A5 c6 => .big (s * (pow2 40)) (fun A7 c8 => .new (fun r9 => .s [.put 0, .c, .c, .d []] (.meet (fun ρ10 α11 => (#[.int .i64 y, .int .i64 s, undef, undef, .int .i64 0, .int .i64 0, .pointer (some ⟨r9, 0, none⟩), .pointer (some ⟨(ρ10 0), 0, none⟩), undef, undef, .int .i64 y, .int .i64 s, .bool (rightB y s), .bool false, .int .i64 s, .agg #[.bool (sg s), .slice A3 (nd s) c4], .agg #[.bool (sg (pow2 40)), .slice A5 (nd (pow2 40)) c6], .agg #[.bool (sg (s * (pow2 40))), .slice A7 (nd (s * (pow2 40))) c8], .int .i64 y, .agg #[.bool (sg y), .slice ((α11 0).1) (nd y) ((α11 0).2)], .int .i64 y, .agg #[.bool (sg y), .slice ((α11 1).1) (nd y) ((α11 1).2)], .agg #[.bool (sg (y * y)), .slice ((α11 2).1) (nd (y * y)) ((α11 2).2)], .agg #[.bool (sg (-(y * y))), .slice ((α11 3).1) (nd (-(y * y))) ((α11 3).2)], .agg #[.bool (sg (s * (pow2 40))), .slice A7 (nd (s * (pow2 40))) c8], .agg #[.bool (sg (fl (-(y * y)) (s * (pow2 40)))), .slice ((α11 4).1) (nd (fl (-(y * y)) (s * (pow2 40)))) ((α11 4).2)], .agg #[.bool (sg (-(fl (-(y * y)) (s * (pow2 40))))), .slice ((α11 5).1) (nd (-(fl (-(y * y)) (s * (pow2 40))))) ((α11 5).2)], undef, undef, undef, undef, undef, undef, undef, undef, undef, undef], [(r9, [.bool (sg (s * (pow2 40))), .slice A7 (nd (s * (pow2 40))) c8]), ((ρ10 0), [.bool (sg (-(fl (-(y * y)) (s * (pow2 40))))), .slice ((α11 5).1) (nd (-(fl (-(y * y)) (s * (pow2 40))))) ((α11 5).2)])], [(A3, c4, s), (A5, c6, pow2 40), (A7, c8, s * (pow2 40)), ((α11 0).1, (α11 0).2, y), ((α11 1).1, (α11 1).2, y), ((α11 2).1, (α11 2).2, y * y), ((α11 3).1, (α11 3).2, -(y * y)), ((α11 4).1, (α11 4).2, fl (-(y * y)) (s * (pow2 40))), ((α11 5).1, (α11 5).2, -(fl (-(y * y)) (s * (pow2 40))))])) (.s [.at 0 false, .v, .at 2 false, .v, .at 6 false, .own 0] (.fork 1 9 (.big y (fun A12 c13 => .fork 3 9 (.big y (fun A14 c15 => .fork 4 9 (.big (y * y) (fun A16 c17 => .fork 5 9 (.big (-(y * y)) (fun A18 c19 => .fork 7 9 (.big (fl (-(y * y)) (s * (pow2 40))) (fun A20 c21 => .fork 8 9 (.big (-(fl (-(y * y)) (s * (pow2 40)))) (fun A22 c23 => .s [.at 9 true] (.new (fun r24 => .s [.at 10 true, .put 1] (.done))))) (.new (fun r25 => .s [.at 8 true] (.big (-(fl (-(y * y)) (s * (pow2 40)))) (fun A26 c27 => .s [.at 10 true, .put 1] (.done))))))) (.new (fun r28 => .s [.at 7 true] (.big (fl (-(y * y)) (s * (pow2 40))) (fun A29 c30 => .s [.at 8 true] (.big (-(fl (-(y * y)) (s * (pow2 40)))) (fun A31 c32 => .s [.at 10 true, .put 1] (.done))))))))) (.new (fun r33 => .s [.at 5 true] (.big (-(y * y)) (fun A34 c35 => .s [.at 7 true] (.big (fl (-(y * y)) (s * (pow2 40))) (fun A36 c37 => .s [.at 8 true] (.big (-(fl (-(y * y)) (s * (pow2 40)))) (fun A38 c39 => .s [.at 10 true, .put 1] (.done))))))))))) (.new (fun r40 => .s [.at 4 true] (.big (y * y) (fun A41 c42 => .s [.at 5 true] (.big (-(y * y)) (fun A43 c44 => .s [.at 7 true] (.big (fl (-(y * y)) (s * (pow2 40))) (fun A45 c46 => .s [.at 8 true] (.big (-(fl (-(y * y)) (s * (pow2 40)))) (fun A47 c48 => .s [.at 10 true, .put 1] (.done))))))))))))) (.new (fun r49 => .s [.at 3 true] (.big y (fun A50 c51 => .s [.at 4 true] (.big (y * y) (fun A52 c53 => .s [.at 5 true] (.big (-(y * y)) (fun A54 c55 => .s [.at 7 true] (.big (fl (-(y * y)) (s * (pow2 40))) (fun A56 c57 => .s [.at 8 true] (.big (-(fl (-(y * y)) (s * (pow2 40)))) (fun A58 c59 => .s [.at 10 true, .put 1] (.done))))))))))))))) (.new (fun r60 => .s [.at 1 true] (.big y (fun A61 c62 => .s [.at 3 true] (.big y (fun A63 c64 => .s [.at 4 true] (.big (y * y) (fun A65 c66 => .s [.at 5 true] (.big (-(y * y)) (fun A67 c68 => .s [.at 7 true] (.big (fl (-(y * y)) (s * (pow2 40))) (fun A69 c70 => .s [.at 8 true] (.big (-(fl (-(y * y)) (s * (pow2 40)))) (fun A71 c72 => .s [.at 10 true, .put 1] (.done))))))))))))))))) (fun ρ10 α11 => .s [.c, .c, .d [], .at 0 false, .own 1, .at 1 true] (.big 1000 (fun A78 c79 => .s [.at 2 true, .call (.int .i64 (cmpZ (-(fl (-(y * y)) (s * (pow2 40)))) 1000)), .at 3 false, .v, .c] (.split 30 (.s [.c, .c, .c, .v, .v, .c] (.ret [])) (.s [.c, .c, .c, .c, .own 1, .call (.tuple #[.int .i64 (fitI (-(fl (-(y * y)) (s * (pow2 40))))), .int .i64 (errI (-(fl (-(y * y)) (s * (pow2 40)))))]), .v, .v, .v, .v, .v, .c, .c, .c, .v, .v, .v, .c] (.ret [])))))))))))))))
    (by kernel_rfl) hG hE Tryd.func26 (by kernel_rfl) (by kernel_rfl) (Eq.mpr (by kernel_rfl) h)
set_option maxRecDepth 1000000 in
set_option maxHeartbeats 8000000 in
theorem ref10_Least (y s : Int) (hy : I64 y) (hs : I64 s) (w : World)  : Calls Tryd.prog 26 #[.int .i64 y, .int .i64 s] w (fun e w' => e = .returned (.tuple #[.int .i64 (leastV y s), .int .i64 (leastE y s)]) ∧ Below w.heap.size w w') := by
  refine ref10_Least_plan y s w _ (St.refl w) Ex.nil ?_
  refine ⟨(CallV.be fun W hS => ref10_right y s W), ?_⟩
  refine ⟨?_, ?_⟩
  · intro h10
    have h1 : (rightB y s) = false := by simpa using h10
    refine ⟨trivial, ?_⟩
    have F := leastV_no h1
    exact fun W hS => ⟨by rw [F.1, F.2], hS.bl⟩
  · intro h20
    have h2 : (rightB y s) = true := by simpa using h20
    obtain ⟨hr1, hr2, hr3⟩ := right_true h2
    refine ⟨(fun W hS => ref_Of s hs W), ?_⟩
    intro A3 c4
    have nA3 : nd s ≤ 4 := (nd_i64 hs)
    refine ⟨(fun W hS => ref_Power 40 (by decide) W), ?_⟩
    intro A5 c6
    have nA5 : nd (pow2 40) ≤ 3 := (by rw [nd_pow2]; decide)
    refine ⟨(fun W hS => ref_Mul s (pow2 40) _ _ _ _ (Nat.le_trans nA3 (by decide)) (Nat.le_trans nA5 (by decide)) W (hS.rb 0 rfl) (hS.rb 1 rfl)), ?_⟩
    intro A7 c8
    have nA7 : nd (s * (pow2 40)) ≤ 7 := (by have h1 := nA3; have h2 := nA5; have h3 := nd_mul s (pow2 40); omega)
    intro r9
    refine ⟨⟨rfl, rfl, trivial⟩, ?_⟩
    refine ⟨?_, ?_⟩
    · refine ⟨rfl, ?_⟩
      refine ⟨?_, ?_⟩
      · refine ⟨(fun W hS => ref_Of y hy W), ?_⟩
        intro A12 c13
        have nA12 : nd y ≤ 4 := (nd_i64 hy)
        refine ⟨?_, ?_⟩
        · refine ⟨(fun W hS => ref_Of y hy W), ?_⟩
          intro A14 c15
          refine ⟨?_, ?_⟩
          · refine ⟨(fun W hS => ref_Mul y y _ _ _ _ (Nat.le_trans nA12 (by decide)) (Nat.le_trans nA12 (by decide)) W (hS.rb 3 rfl) (hS.rb 4 rfl)), ?_⟩
            intro A16 c17
            have nA16 : nd (y * y) ≤ 8 := (by have h1 := nA12; have h2 := nA12; have h3 := nd_mul y y; omega)
            refine ⟨?_, ?_⟩
            · refine ⟨(fun W hS => ref_Turn (y * y) _ _ W (hS.rb 5 rfl)), ?_⟩
              intro A18 c19
              have nA18 : nd (-(y * y)) ≤ 8 := (by rw [nd_neg]; exact nA16)
              refine ⟨?_, ?_⟩
              · refine ⟨(fun W hS => ref_Div (-(y * y)) (s * (pow2 40)) _ _ _ _ (show s * (pow2 40) ≠ 0 by have := sp_pos hr3; omega) (Nat.le_trans nA18 (by decide)) (Nat.le_trans nA7 (by decide)) W (hS.rb 6 rfl) (hS.rb 2 rfl)), ?_⟩
                intro A20 c21
                have nA20 : nd (fl (-(y * y)) (s * (pow2 40))) ≤ 9 := (by have h1 := nA18; have h2 := nd_fl (-(y * y)) (show s * (pow2 40) ≠ 0 by have := sp_pos hr3; omega); omega)
                refine ⟨?_, ?_⟩
                · refine ⟨(fun W hS => ref_Turn (fl (-(y * y)) (s * (pow2 40))) _ _ W (hS.rb 7 rfl)), ?_⟩
                  intro A22 c23
                  have nA22 : nd (-(fl (-(y * y)) (s * (pow2 40)))) ≤ 9 := (by rw [nd_neg]; exact nA20)
                  intro r24
                  refine ⟨⟨rfl, rfl, trivial⟩, ?_⟩
                  refine ⟨fun i => match i with | 0 => r24 | _ => 0, fun i => match i with | 0 => (A12, c13) | 1 => (A14, c15) | 2 => (A16, c17) | 3 => (A18, c19) | 4 => (A20, c21) | 5 => (A22, c23) | _ => (none, 0), ?_, ?_, ?_⟩ <;> kernel_rfl
                · intro r25
                  refine ⟨(fun W hS => ref_Turn (fl (-(y * y)) (s * (pow2 40))) _ _ W (hS.rb 7 rfl)), ?_⟩
                  intro A26 c27
                  have nA26 : nd (-(fl (-(y * y)) (s * (pow2 40)))) ≤ 9 := (by rw [nd_neg]; exact nA20)
                  refine ⟨⟨rfl, rfl, trivial⟩, ?_⟩
                  refine ⟨fun i => match i with | 0 => r25 | _ => 0, fun i => match i with | 0 => (A12, c13) | 1 => (A14, c15) | 2 => (A16, c17) | 3 => (A18, c19) | 4 => (A20, c21) | 5 => (A26, c27) | _ => (none, 0), ?_, ?_, ?_⟩ <;> kernel_rfl
              · intro r28
                refine ⟨(fun W hS => ref_Div (-(y * y)) (s * (pow2 40)) _ _ _ _ (show s * (pow2 40) ≠ 0 by have := sp_pos hr3; omega) (Nat.le_trans nA18 (by decide)) (Nat.le_trans nA7 (by decide)) W (hS.rb 6 rfl) (hS.rb 2 rfl)), ?_⟩
                intro A29 c30
                have nA29 : nd (fl (-(y * y)) (s * (pow2 40))) ≤ 9 := (by have h1 := nA18; have h2 := nd_fl (-(y * y)) (show s * (pow2 40) ≠ 0 by have := sp_pos hr3; omega); omega)
                refine ⟨(fun W hS => ref_Turn (fl (-(y * y)) (s * (pow2 40))) _ _ W (hS.rb 7 rfl)), ?_⟩
                intro A31 c32
                have nA31 : nd (-(fl (-(y * y)) (s * (pow2 40)))) ≤ 9 := (by rw [nd_neg]; exact nA29)
                refine ⟨⟨rfl, rfl, trivial⟩, ?_⟩
                refine ⟨fun i => match i with | 0 => r28 | _ => 0, fun i => match i with | 0 => (A12, c13) | 1 => (A14, c15) | 2 => (A16, c17) | 3 => (A18, c19) | 4 => (A29, c30) | 5 => (A31, c32) | _ => (none, 0), ?_, ?_, ?_⟩ <;> kernel_rfl
            · intro r33
              refine ⟨(fun W hS => ref_Turn (y * y) _ _ W (hS.rb 5 rfl)), ?_⟩
              intro A34 c35
              have nA34 : nd (-(y * y)) ≤ 8 := (by rw [nd_neg]; exact nA16)
              refine ⟨(fun W hS => ref_Div (-(y * y)) (s * (pow2 40)) _ _ _ _ (show s * (pow2 40) ≠ 0 by have := sp_pos hr3; omega) (Nat.le_trans nA34 (by decide)) (Nat.le_trans nA7 (by decide)) W (hS.rb 6 rfl) (hS.rb 2 rfl)), ?_⟩
              intro A36 c37
              have nA36 : nd (fl (-(y * y)) (s * (pow2 40))) ≤ 9 := (by have h1 := nA34; have h2 := nd_fl (-(y * y)) (show s * (pow2 40) ≠ 0 by have := sp_pos hr3; omega); omega)
              refine ⟨(fun W hS => ref_Turn (fl (-(y * y)) (s * (pow2 40))) _ _ W (hS.rb 7 rfl)), ?_⟩
              intro A38 c39
              have nA38 : nd (-(fl (-(y * y)) (s * (pow2 40)))) ≤ 9 := (by rw [nd_neg]; exact nA36)
              refine ⟨⟨rfl, rfl, trivial⟩, ?_⟩
              refine ⟨fun i => match i with | 0 => r33 | _ => 0, fun i => match i with | 0 => (A12, c13) | 1 => (A14, c15) | 2 => (A16, c17) | 3 => (A34, c35) | 4 => (A36, c37) | 5 => (A38, c39) | _ => (none, 0), ?_, ?_, ?_⟩ <;> kernel_rfl
          · intro r40
            refine ⟨(fun W hS => ref_Mul y y _ _ _ _ (Nat.le_trans nA12 (by decide)) (Nat.le_trans nA12 (by decide)) W (hS.rb 3 rfl) (hS.rb 4 rfl)), ?_⟩
            intro A41 c42
            have nA41 : nd (y * y) ≤ 8 := (by have h1 := nA12; have h2 := nA12; have h3 := nd_mul y y; omega)
            refine ⟨(fun W hS => ref_Turn (y * y) _ _ W (hS.rb 5 rfl)), ?_⟩
            intro A43 c44
            have nA43 : nd (-(y * y)) ≤ 8 := (by rw [nd_neg]; exact nA41)
            refine ⟨(fun W hS => ref_Div (-(y * y)) (s * (pow2 40)) _ _ _ _ (show s * (pow2 40) ≠ 0 by have := sp_pos hr3; omega) (Nat.le_trans nA43 (by decide)) (Nat.le_trans nA7 (by decide)) W (hS.rb 6 rfl) (hS.rb 2 rfl)), ?_⟩
            intro A45 c46
            have nA45 : nd (fl (-(y * y)) (s * (pow2 40))) ≤ 9 := (by have h1 := nA43; have h2 := nd_fl (-(y * y)) (show s * (pow2 40) ≠ 0 by have := sp_pos hr3; omega); omega)
            refine ⟨(fun W hS => ref_Turn (fl (-(y * y)) (s * (pow2 40))) _ _ W (hS.rb 7 rfl)), ?_⟩
            intro A47 c48
            have nA47 : nd (-(fl (-(y * y)) (s * (pow2 40)))) ≤ 9 := (by rw [nd_neg]; exact nA45)
            refine ⟨⟨rfl, rfl, trivial⟩, ?_⟩
            refine ⟨fun i => match i with | 0 => r40 | _ => 0, fun i => match i with | 0 => (A12, c13) | 1 => (A14, c15) | 2 => (A41, c42) | 3 => (A43, c44) | 4 => (A45, c46) | 5 => (A47, c48) | _ => (none, 0), ?_, ?_, ?_⟩ <;> kernel_rfl
        · intro r49
          refine ⟨(fun W hS => ref_Of y hy W), ?_⟩
          intro A50 c51
          refine ⟨(fun W hS => ref_Mul y y _ _ _ _ (Nat.le_trans nA12 (by decide)) (Nat.le_trans nA12 (by decide)) W (hS.rb 3 rfl) (hS.rb 4 rfl)), ?_⟩
          intro A52 c53
          have nA52 : nd (y * y) ≤ 8 := (by have h1 := nA12; have h2 := nA12; have h3 := nd_mul y y; omega)
          refine ⟨(fun W hS => ref_Turn (y * y) _ _ W (hS.rb 5 rfl)), ?_⟩
          intro A54 c55
          have nA54 : nd (-(y * y)) ≤ 8 := (by rw [nd_neg]; exact nA52)
          refine ⟨(fun W hS => ref_Div (-(y * y)) (s * (pow2 40)) _ _ _ _ (show s * (pow2 40) ≠ 0 by have := sp_pos hr3; omega) (Nat.le_trans nA54 (by decide)) (Nat.le_trans nA7 (by decide)) W (hS.rb 6 rfl) (hS.rb 2 rfl)), ?_⟩
          intro A56 c57
          have nA56 : nd (fl (-(y * y)) (s * (pow2 40))) ≤ 9 := (by have h1 := nA54; have h2 := nd_fl (-(y * y)) (show s * (pow2 40) ≠ 0 by have := sp_pos hr3; omega); omega)
          refine ⟨(fun W hS => ref_Turn (fl (-(y * y)) (s * (pow2 40))) _ _ W (hS.rb 7 rfl)), ?_⟩
          intro A58 c59
          have nA58 : nd (-(fl (-(y * y)) (s * (pow2 40)))) ≤ 9 := (by rw [nd_neg]; exact nA56)
          refine ⟨⟨rfl, rfl, trivial⟩, ?_⟩
          refine ⟨fun i => match i with | 0 => r49 | _ => 0, fun i => match i with | 0 => (A12, c13) | 1 => (A50, c51) | 2 => (A52, c53) | 3 => (A54, c55) | 4 => (A56, c57) | 5 => (A58, c59) | _ => (none, 0), ?_, ?_, ?_⟩ <;> kernel_rfl
      · intro r60
        refine ⟨(fun W hS => ref_Of y hy W), ?_⟩
        intro A61 c62
        have nA61 : nd y ≤ 4 := (nd_i64 hy)
        refine ⟨(fun W hS => ref_Of y hy W), ?_⟩
        intro A63 c64
        refine ⟨(fun W hS => ref_Mul y y _ _ _ _ (Nat.le_trans nA61 (by decide)) (Nat.le_trans nA61 (by decide)) W (hS.rb 3 rfl) (hS.rb 4 rfl)), ?_⟩
        intro A65 c66
        have nA65 : nd (y * y) ≤ 8 := (by have h1 := nA61; have h2 := nA61; have h3 := nd_mul y y; omega)
        refine ⟨(fun W hS => ref_Turn (y * y) _ _ W (hS.rb 5 rfl)), ?_⟩
        intro A67 c68
        have nA67 : nd (-(y * y)) ≤ 8 := (by rw [nd_neg]; exact nA65)
        refine ⟨(fun W hS => ref_Div (-(y * y)) (s * (pow2 40)) _ _ _ _ (show s * (pow2 40) ≠ 0 by have := sp_pos hr3; omega) (Nat.le_trans nA67 (by decide)) (Nat.le_trans nA7 (by decide)) W (hS.rb 6 rfl) (hS.rb 2 rfl)), ?_⟩
        intro A69 c70
        have nA69 : nd (fl (-(y * y)) (s * (pow2 40))) ≤ 9 := (by have h1 := nA67; have h2 := nd_fl (-(y * y)) (show s * (pow2 40) ≠ 0 by have := sp_pos hr3; omega); omega)
        refine ⟨(fun W hS => ref_Turn (fl (-(y * y)) (s * (pow2 40))) _ _ W (hS.rb 7 rfl)), ?_⟩
        intro A71 c72
        have nA71 : nd (-(fl (-(y * y)) (s * (pow2 40)))) ≤ 9 := (by rw [nd_neg]; exact nA69)
        refine ⟨⟨rfl, rfl, trivial⟩, ?_⟩
        refine ⟨fun i => match i with | 0 => r60 | _ => 0, fun i => match i with | 0 => (A61, c62) | 1 => (A63, c64) | 2 => (A65, c66) | 3 => (A67, c68) | 4 => (A69, c70) | 5 => (A71, c72) | _ => (none, 0), ?_, ?_, ?_⟩ <;> kernel_rfl
    · intro ρ10 α11
      have nb73 : nd y ≤ 4 := (nd_i64 hy)
      have nb74 : nd (y * y) ≤ 8 := (by have h1 := nb73; have h2 := nb73; have h3 := nd_mul y y; omega)
      have nb75 : nd (-(y * y)) ≤ 8 := (by rw [nd_neg]; exact nb74)
      have nb76 : nd (fl (-(y * y)) (s * (pow2 40))) ≤ 9 := (by have h1 := nb75; have h2 := nd_fl (-(y * y)) (show s * (pow2 40) ≠ 0 by have := sp_pos hr3; omega); omega)
      have nb77 : nd (-(fl (-(y * y)) (s * (pow2 40)))) ≤ 9 := (by rw [nd_neg]; exact nb76)
      refine ⟨rfl, (fun W hS => ref_Of 1000 (by decide) W), ?_⟩
      intro A78 c79
      have nA78 : nd 1000 ≤ 4 := (nd_i64 (by decide))
      refine ⟨(CallV.be fun W hS => ref_Cmp (-(fl (-(y * y)) (s * (pow2 40)))) 1000 _ _ _ _ (Nat.le_trans nb77 (by decide)) (Nat.le_trans nA78 (by decide)) W (hS.rb 8 rfl) (hS.rb 9 rfl)), ?_⟩
      refine ⟨?_, ?_⟩
      · intro h80
        have h80p : (cmpZ (-(fl (-(y * y)) (s * (pow2 40)))) 1000) > 0 := by simpa using h80
        refine ⟨trivial, ?_⟩
        have q := h80
        rw [cmpZ_gtb, up_fl hr3] at q
        have u0 := upZ_nonneg (y := y) hr3
        have F := leastV_hi h2 (least_hi (of_decide_eq_true q))
        exact fun W hS => ⟨by rw [F.1, F.2], hS.bl⟩
      · intro h81
        have h81p : ¬ ((cmpZ (-(fl (-(y * y)) (s * (pow2 40)))) 1000) > 0) := by simpa using h81
        refine ⟨rfl, (CallV.be fun W hS => ref_Int (-(fl (-(y * y)) (s * (pow2 40)))) _ _ (Nat.le_trans nb77 (by decide)) W (hS.rb 8 rfl)), trivial, ?_⟩
        have q := h81
        rw [cmpZ_gtb, up_fl hr3] at q
        have u0 := upZ_nonneg (y := y) hr3
        have q1 := of_decide_eq_false q
        obtain ⟨q2, q3⟩ := least_lo q1
        have F := leastV_lo h2 q2
        exact fun W hS => ⟨by rw [F.1, F.2, up_fl hr3, q3, fitI_of u0 (by omega)], hS.bl⟩

end Go.Proofs.YtlinfennhfphiaaDoor
