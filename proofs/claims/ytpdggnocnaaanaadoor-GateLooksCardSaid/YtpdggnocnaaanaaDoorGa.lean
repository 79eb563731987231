/- Walks of layer 10 (gate) and of its reference, by plans. -/
import Derived.Test.YtpdggnocnaaanaaDoorFc
namespace Go.Proofs.YtpdggnocnaaanaaDoor
open Go.RowKit
set_option linter.unusedSimpArgs false
set_option linter.unusedVariables false
def rightB (y s : Int) : Bool := fitB y && (fitB s && decide (1 ≤ s))
def upZ (y s : Int) : Int := -((-(y * y)) / (s * pow2 40))
def passB (y s g : Int) : Bool := rightB y s && (decide (0 ≤ g) && (decide (g ≤ 1000) && decide (y * y ≤ g * s * pow2 40)))
def leastQ (y s : Int) : Int := min (upZ y s) 1001
def leastV (y s : Int) : Int := if rightB y s = true then (if leastQ y s > 1000 then 0 else leastQ y s) else 0
def leastE (y s : Int) : Int := if rightB y s = true then (if leastQ y s > 1000 then 2 else 0) else 1
def pr2 (a b : Int) : Nat → Int
  | 0 => a
  | _ => b
theorem right_true {y s : Int} (h : rightB y s = true) : fitB y = true ∧ fitB s = true ∧ 1 ≤ s := by
  unfold rightB at h; simp only [Bool.and_eq_true, decide_eq_true_eq] at h; exact h
theorem right_mk {y s : Int} (h1 : fitB y = true) (h2 : fitB s = true) (h3 : 1 ≤ s) : rightB y s = true := by
  unfold rightB; simp only [Bool.and_eq_true, decide_eq_true_eq]; exact ⟨h1, h2, h3⟩
theorem sp_pos {s : Int} (h : 1 ≤ s) : 0 < s * pow2 40 := Int.mul_pos (by omega) (pow2_pos 40)
theorem upZ_le {y s t : Int} (hs : 1 ≤ s) : upZ y s ≤ t ↔ y * y ≤ t * s * pow2 40 := by
  have h := sp_pos hs
  unfold upZ
  rw [Int.mul_assoc t]
  have k := Int.le_ediv_iff_mul_le (a := -t) (b := -(y * y)) h
  rw [Int.neg_mul] at k
  constructor
  · intro q; have := k.1 (by omega); omega
  · intro q; have := k.2 (by omega); omega
theorem upZ_nonneg {y s : Int} (hs : 1 ≤ s) : 0 ≤ upZ y s := by
  have h := sp_pos hs
  have h2 : 0 ≤ y * y := by
    rcases Int.le_total 0 y with q | q
    · exact Int.mul_nonneg q q
    · have := Int.mul_nonneg (a := -y) (b := -y) (by omega) (by omega); rwa [Int.neg_mul_neg] at this
  unfold upZ
  have k : (-(y * y)) / (s * pow2 40) ≤ 0 := by
    have := Int.ediv_le_ediv h (show -(y * y) ≤ 0 by omega)
    rwa [Int.zero_ediv] at this
  omega
theorem leastQ_in {y s : Int} (hs : 1 ≤ s) : 0 ≤ leastQ y s ∧ leastQ y s ≤ 1001 := by have := upZ_nonneg (y := y) hs; unfold leastQ; omega
theorem pass_mid {y s g : Int} (h : rightB y s = true) (h0 : 0 ≤ g) (h1 : g ≤ 1000) : (passB y s g = true → leastQ y s ≤ g) ∧ (passB y s g = false → g < leastQ y s) := by
  have hs := (right_true h).2.2
  have k := upZ_le (y := y) (t := g) hs
  unfold passB leastQ
  rw [h, decide_eq_true h0, decide_eq_true h1, Bool.true_and, Bool.true_and, Bool.true_and, decide_eq_true_eq, decide_eq_false_iff_not]
  constructor
  · intro q; have := k.2 q; omega
  · intro q; have : ¬ upZ y s ≤ g := fun r => q (k.1 r)
    omega
theorem gs_fit {g s : Int} (h0 : 0 ≤ g) (h1 : g ≤ 1000) (hs : fitB s = true) (h2 : 1 ≤ s) : W128 (g * s * pow2 40) := by
  have k := fitB_true.1 hs
  have a := Int.mul_nonneg h0 (show 0 ≤ s by omega)
  have b := Int.mul_le_mul h1 k.2 (by omega) (by omega)
  rw [pow2_40]; unfold W128; omega
theorem wide_Up_fit (z : Int) (hz : W128 z) (h : W128 (z * pow2 40)) (w : World) (hg : GN w) : Calls Tryd.prog 97 #[.agg #[.int .i64 (whi z), .int .u64 (wlo z)], .int .i64 40] w fun e w' => e = .returned (.tuple #[.agg #[.int .i64 (whi (z * pow2 40)), .int .u64 (wlo (z * pow2 40))], .int .i64 0]) ∧ Below w.heap.size w w' := by
  have k := wide_Up_loop z 40 (by decide) hz w hg
  have e : up z 40 = z * pow2 40 := rfl
  rw [e, (fitW_of h).1, (fitW_of h).2] at k; exact k
theorem cmpI_le (a b : Int) : decide (cmpI a b ≤ 0) = decide (a ≤ b) := by
  unfold cmpI; (repeat' split) <;> simp <;> omega
theorem cmpZ_le (a b : Int) : decide (cmpZ a b ≤ 0) = decide (a ≤ b) := cmpI_le a b
theorem cmpZ_gtb (a b : Int) : decide (cmpZ a b > 0) = decide (a > b) := by
  unfold cmpZ; (repeat' split) <;> simp <;> omega
theorem pos_one (s : Int) : decide (s > 0) = decide (1 ≤ s) := by
  by_cases h : 1 ≤ s
  · rw [decide_eq_true h, decide_eq_true (by omega)]
  · rw [decide_eq_false h, decide_eq_false (by omega)]
theorem pass_val {y s g : Int} (h : rightB y s = true) (h0 : 0 ≤ g) (h1 : g ≤ 1000) : passB y s g = decide (y * y ≤ g * s * pow2 40) := by
  unfold passB; rw [h, decide_eq_true h0, decide_eq_true h1]; rfl
theorem pass_no1 {y s g : Int} (h : rightB y s = false) : passB y s g = false := by unfold passB; rw [h]; rfl
theorem pass_no2 {y s g : Int} (h : g < 0) : passB y s g = false := by unfold passB; rw [decide_eq_false (show ¬ 0 ≤ g by omega)]; simp
theorem pass_no3 {y s g : Int} (h : g > 1000) : passB y s g = false := by unfold passB; rw [decide_eq_false (show ¬ g ≤ 1000 by omega)]; simp
theorem u64w {n : Int} (h : 0 ≤ n ∧ n ≤ 9223372036854775807) : IntKind.u64.wrap n = n := IntWalk.u64_in _ ⟨h.1, by omega⟩
theorem up_fl {y s : Int} (hs : 1 ≤ s) : -(fl (-(y * y)) (s * pow2 40)) = upZ y s := by
  have := sp_pos hs
  unfold fl upZ; rw [if_neg (by omega)]
theorem fitI_of {z : Int} (h0 : 0 ≤ z) (h1 : z ≤ 1000) : fitI z = z := by unfold fitI; rw [if_pos (by unfold I64; omega)]
theorem least_hi {y s : Int} (h : upZ y s > 1000) : leastQ y s > 1000 := by unfold leastQ; omega
theorem least_lo {y s : Int} (h : ¬ upZ y s > 1000) : ¬ leastQ y s > 1000 ∧ leastQ y s = upZ y s := by unfold leastQ; omega
theorem nd_fl (x : Int) {b : Int} (hb : b ≠ 0) : nd (fl x b) ≤ nd x + 1 := by
  have hk : (fl x b).natAbs ≤ x.natAbs := by
    unfold fl
    split
    · have := div_abs (a := -x) (b := -b) (by omega); rwa [Int.natAbs_neg] at this
    · exact div_abs (by omega)
  have := nd_mono hk
  omega
theorem leastV_no {y s : Int} (h : rightB y s = false) : leastV y s = 0 ∧ leastE y s = 1 := by unfold leastV leastE; rw [h]; exact ⟨rfl, rfl⟩
theorem leastV_hi {y s : Int} (h : rightB y s = true) (q : leastQ y s > 1000) : leastV y s = 0 ∧ leastE y s = 2 := by unfold leastV leastE; rw [if_pos h, if_pos h, if_pos q, if_pos q]; exact ⟨rfl, rfl⟩
theorem leastV_lo {y s : Int} (h : rightB y s = true) (q : ¬ leastQ y s > 1000) : leastV y s = leastQ y s ∧ leastE y s = 0 := by unfold leastV leastE; rw [if_pos h, if_pos h, if_neg q, if_neg q]; exact ⟨rfl, rfl⟩
set_option maxRecDepth 1000000 in
set_option maxHeartbeats 8000000 in
theorem gate_right_plan (y s : Int) (w : World) (R : Ending → World → Prop) (hG : St w w [] []) (hE : Ex w [])
    (h : CallV Tryd.prog w [] [] 39 #[.int .i64 y] (.bool (fitB y)) ∧ (((fitB y) = true → CallV Tryd.prog w [] [] 39 #[.int .i64 s] (.bool (fitB s)) ∧ (((fitB s) = true → (True) ∧ (LeafV R w [] [] (.bool (decide (s ≥ 1))))) ∧ ((fitB s) = false → (True) ∧ (LeafV R w [] [] (.bool false))))) ∧ ((fitB y) = false → (True) ∧ (LeafV R w [] [] (.bool false))))) : Calls Tryd.prog 104 #[.int .i64 y, .int .i64 s] w R :=
  calls_of_plan (f := 104) (es := []) (c := Tryd.f104.body.getD .skip) (tmps := #[.int .i64 y, .int .i64 s, undef, undef, undef, undef, undef, undef, undef, undef, undef, undef, undef, undef, undef])
    (.s [.c, .c, .v, .c, .c, .c, .v, .call (.bool (fitB y)), .v] (.split 7 (.s [.v, .call (.bool (fitB s)), .v, .v] (.split 11 (.s [.v, .v, .v, .v, .c] (.ret [])) (.s [.u, .u, .v, .v, .c] (.ret [])))) (.s [.u, .u, .v, .v, .u, .u, .v, .v, .c] (.ret []))))
    (by kernel_rfl) hG hE Tryd.func104 (by kernel_rfl) (by kernel_rfl) (Eq.mpr (by kernel_rfl) h)
set_option maxRecDepth 1000000 in
set_option maxHeartbeats 8000000 in
theorem gate_right (y s : Int)  (w : World)  : Calls Tryd.prog 104 #[.int .i64 y, .int .i64 s] w (fun e w' => e = .returned (.bool (rightB y s)) ∧ Below w.heap.size w w') := by
  refine gate_right_plan y s w _ (St.refl w) Ex.nil ?_
  refine ⟨(CallV.of fun W hS => fix_Fits y  W ), ?_⟩
  refine ⟨?_, ?_⟩
  · intro h1
    refine ⟨(CallV.of fun W hS => fix_Fits s  W ), ?_⟩
    refine ⟨?_, ?_⟩
    · intro h2
      refine ⟨trivial, ?_⟩
      exact fun W hS => ⟨by simp only [rightB, h1, h2, pos_one, ge_iff_le, Bool.true_and, Bool.false_and, Bool.and_false], hS.bl⟩
    · intro h3
      refine ⟨trivial, ?_⟩
      exact fun W hS => ⟨by simp only [rightB, h1, h3, pos_one, ge_iff_le, Bool.true_and, Bool.false_and, Bool.and_false], hS.bl⟩
  · intro h4
    refine ⟨trivial, ?_⟩
    exact fun W hS => ⟨by simp only [rightB, h4, pos_one, ge_iff_le, Bool.true_and, Bool.false_and, Bool.and_false], hS.bl⟩
set_option maxRecDepth 1000000 in
set_option maxHeartbeats 8000000 in
theorem gate_Pass_plan (y s g : Int) (w : World) (R : Ending → World → Prop) (hG : St w w [] []) (hE : Ex w [])
    (h : CallV Tryd.prog w [] [] 104 #[.int .i64 y, .int .i64 s] (.bool (rightB y s)) ∧ (((!(rightB y s)) = true → (True) ∧ (LeafV R w [] [] (.bool false))) ∧ ((!(rightB y s)) = false → ((decide (g < 0)) = true → (True) ∧ (LeafV R w [] [] (.bool false))) ∧ ((decide (g < 0)) = false → ((decide (g > 1000)) = true → (True) ∧ (LeafV R w [] [] (.bool false))) ∧ ((decide (g > 1000)) = false → CallV Tryd.prog w [] [] 43 #[.int .i64 g, .int .i64 s] (.agg #[.int .i64 (whi (g * s)), .int .u64 (wlo (g * s))]) ∧ CallV Tryd.prog w [] [] 97 #[.agg #[.int .i64 (whi (g * s)), .int .u64 (wlo (g * s))], .int .i64 40] (.tuple #[.agg #[.int .i64 (whi ((g * s) * pow2 40)), .int .u64 (wlo ((g * s) * pow2 40))], .int .i64 0]) ∧ (∀ r7 : Nat, (r7 = r7 ∧ (r7 = r7 ∧ (True))) ∧ r7 = r7 ∧ CallV Tryd.prog w [(r7, [.int .i64 (whi ((g * s) * pow2 40)), .int .u64 (wlo ((g * s) * pow2 40))])] [] 43 #[.int .i64 y, .int .i64 y] (.agg #[.int .i64 (whi (y * y)), .int .u64 (wlo (y * y))]) ∧ CallV Tryd.prog w [(r7, [.int .i64 (whi ((g * s) * pow2 40)), .int .u64 (wlo ((g * s) * pow2 40))])] [] 107 #[.agg #[.int .i64 (whi (y * y)), .int .u64 (wlo (y * y))], .agg #[.int .i64 (whi ((g * s) * pow2 40)), .int .u64 (wlo ((g * s) * pow2 40))]] (.int .i64 (cmpI (y * y) ((g * s) * pow2 40))) ∧ (True) ∧ (LeafV R w [(r7, [.int .i64 (whi ((g * s) * pow2 40)), .int .u64 (wlo ((g * s) * pow2 40))])] [] (.bool (decide ((cmpI (y * y) ((g * s) * pow2 40)) ≤ 0)))))))))) : Calls Tryd.prog 77 #[.int .i64 y, .int .i64 s, .int .i64 g] w R :=
  calls_of_plan (f := 77) (es := []) (c := Tryd.f77.body.getD .skip) (tmps := #[.int .i64 y, .int .i64 s, .int .i64 g, undef, undef, undef, undef, undef, undef, undef, undef, undef, undef, undef, undef, undef, undef, undef, undef, undef, undef, undef, undef, undef, undef, undef, undef, undef, undef, undef, undef, undef, undef, undef])
    (.s [.c, .c, .v, .c, .c, .c, .c, .v, .v, .call (.bool (rightB y s)), .v, .v] (.split 13 (.s [.u, .u, .v, .v, .u, .u, .v, .c, .c, .c, .c, .v, .c] (.ret [])) (.s [.v, .v, .v, .v] (.split 17 (.s [.u, .u, .v, .c, .c, .c, .c, .v, .c] (.ret [])) (.s [.v, .v, .v, .c] (.split 20 (.s [.c, .c, .c, .v, .c] (.ret [])) (.s [.c, .c, .c, .c, .v, .v, .call (.agg #[.int .i64 (whi (g * s)), .int .u64 (wlo (g * s))]), .call (.tuple #[.agg #[.int .i64 (whi ((g * s) * pow2 40)), .int .u64 (wlo ((g * s) * pow2 40))], .int .i64 0]), .v, .v, .v] (.new (fun r7 => .s [.put 0, .v, .c, .c, .d [], .at 0 false, .v, .at 1 false, .v, .at 3 false, .own 0, .at 2 true, .call (.agg #[.int .i64 (whi (y * y)), .int .u64 (wlo (y * y))]), .at 4 true, .call (.int .i64 (cmpI (y * y) ((g * s) * pow2 40))), .at 5 false, .v, .at 6 false, .v, .c] (.ret []))))))))))
    (by kernel_rfl) hG hE Tryd.func77 (by kernel_rfl) (by kernel_rfl) (Eq.mpr (by kernel_rfl) h)
set_option maxRecDepth 1000000 in
set_option maxHeartbeats 8000000 in
theorem gate_Pass (y s g : Int) (hy : I64 y) (hs : I64 s) (ht : I64 g) (w : World) (hg : GN w) : Calls Tryd.prog 77 #[.int .i64 y, .int .i64 s, .int .i64 g] w (fun e w' => e = .returned (.bool (passB y s g)) ∧ Below w.heap.size w w') := by
  refine gate_Pass_plan y s g w _ (St.refl w) Ex.nil ?_
  refine ⟨(CallV.be fun W hS => gate_right y s W), ?_⟩
  refine ⟨?_, ?_⟩
  · intro h10
    have h1 : (rightB y s) = false := by simpa using h10
    refine ⟨trivial, ?_⟩
    exact fun W hS => ⟨congrArg (fun q => Ending.returned (Value.bool q)) (pass_no1 h1).symm, hS.bl⟩
  · intro h20
    have h2 : (rightB y s) = true := by simpa using h20
    obtain ⟨hr1, hr2, hr3⟩ := right_true h2
    refine ⟨?_, ?_⟩
    · intro h3
      have h3p : g < 0 := by simpa using h3
      refine ⟨trivial, ?_⟩
      exact fun W hS => ⟨congrArg (fun q => Ending.returned (Value.bool q)) (pass_no2 h3p).symm, hS.bl⟩
    · intro h4
      have h4p : ¬ (g < 0) := by simpa using h4
      refine ⟨?_, ?_⟩
      · intro h5
        have h5p : g > 1000 := by simpa using h5
        refine ⟨trivial, ?_⟩
        exact fun W hS => ⟨congrArg (fun q => Ending.returned (Value.bool q)) (pass_no3 h5p).symm, hS.bl⟩
      · intro h6
        have h6p : ¬ (g > 1000) := by simpa using h6
        refine ⟨(CallV.be fun W hS => wide_Mul g s ht hs W (hg.below hS.bl)), (CallV.be fun W hS => wide_Up_fit (g * s) (prod_W128 ht hs) (gs_fit (by omega) (by omega) hr2 hr3) W (hg.below hS.bl)), ?_⟩
        intro r7
        refine ⟨⟨rfl, rfl, trivial⟩, rfl, (CallV.be fun W hS => wide_Mul y y hy hy W (hg.below hS.bl)), (CallV.be fun W hS => wide_Cmp (y * y) ((g * s) * pow2 40) W), trivial, ?_⟩
        exact fun W hS => ⟨congrArg (fun q => Ending.returned (Value.bool q)) ((cmpI_le _ _).trans (pass_val h2 (by omega) (by omega)).symm), hS.bl⟩
set_option maxRecDepth 1000000 in
set_option maxHeartbeats 8000000 in
theorem gate_Least1_plan (y s g : Int) (b1 b2 : Nat) (w : World) (R : Ending → World → Prop) (hG : St w w [] []) (hE : Ex w [(b1, [.int .i64 y]), (b2, [.int .i64 s])])
    (h : b1 = b1 ∧ b2 = b2 ∧ CallV Tryd.prog w [] [] 77 #[.int .i64 y, .int .i64 s, .int .i64 g] (.bool (passB y s g)) ∧ (True) ∧ (LeafV R w [] [] (.bool (passB y s g)))) : Calls Tryd.prog 106 #[.int .i64 g, .pointer (some ⟨b1, 0, none⟩), .pointer (some ⟨b2, 0, none⟩)] w R :=
  calls_of_plan (f := 106) (es := [(b1, [.int .i64 y]), (b2, [.int .i64 s])]) (c := Tryd.f106.body.getD .skip) (tmps := #[.int .i64 g, .pointer (some ⟨b1, 0, none⟩), .pointer (some ⟨b2, 0, none⟩), undef, undef, undef, undef, undef, undef])
    (.s [.c, .c, .v, .c, .c, .c, .ext 0, .ext 1, .v, .call (.bool (passB y s g)), .v, .c] (.ret []))
    (by kernel_rfl) hG hE Tryd.func106 (by kernel_rfl) (by kernel_rfl) (Eq.mpr (by kernel_rfl) h)
set_option maxRecDepth 1000000 in
set_option maxHeartbeats 8000000 in
theorem gate_Least1 (y s g : Int) (b1 b2 : Nat) (hy : I64 y) (hs : I64 s) (ht : I64 g) (w : World) (hg : GN w) (h1 : w.cell? ⟨b1, 0, none⟩ = some (.int .i64 y)) (h2 : w.cell? ⟨b2, 0, none⟩ = some (.int .i64 s)) : Calls Tryd.prog 106 #[.int .i64 g, .pointer (some ⟨b1, 0, none⟩), .pointer (some ⟨b2, 0, none⟩)] w (fun e w' => e = .returned (.bool (passB y s g)) ∧ Below w.heap.size w w') := by
  refine gate_Least1_plan y s g b1 b2 w _ (St.refl w) (Ex.cons (exOf (by exact ⟨h1, trivial⟩)) (Ex.cons (exOf (by exact ⟨h2, trivial⟩)) (Ex.nil))) ?_
  refine ⟨rfl, rfl, (CallV.be fun W hS => gate_Pass y s g hy hs ht W (hg.below hS.bl)), trivial, ?_⟩
  exact fun W hS => ⟨rfl, hS.bl⟩
set_option maxRecDepth 1000000 in
set_option maxHeartbeats 8000000 in
theorem gate_Search_plan (y s : Int) (b1 b2 : Nat) (w : World) (R : Ending → World → Prop) (hG : St w w [] []) (hE : Ex w [])
    (h : (∃ (k' : Nat) (ξ' : Nat → Int) (u' : Nat → Value) (α' : Nat → Option Addr × Nat), (0 ≤ ξ' 0 ∧ ξ' 0 ≤ leastQ y s ∧ leastQ y s ≤ ξ' 1 ∧ ξ' 1 ≤ 1001) ∧ (#[.int .i64 1001, .func (.func 106) #[] #[.pointer (some ⟨b1, 0, none⟩), .pointer (some ⟨b2, 0, none⟩)], undef, undef, .int .i64 0, .int .i64 0, .int .i64 1001, undef, .int .i64 1001, undef, undef, undef, undef, undef, undef, undef, undef, undef, undef, undef, undef, undef, undef, undef, undef, undef] : Array Value) = #[.int .i64 1001, .func (.func 106) #[] #[.pointer (some ⟨b1, 0, none⟩), .pointer (some ⟨b2, 0, none⟩)], undef, undef, .int .i64 0, .int .i64 (ξ' 0), .int .i64 (ξ' 1), (u' 7), .int .i64 1001, (u' 9), (u' 10), (u' 11), (u' 12), (u' 13), (u' 14), (u' 15), (u' 16), (u' 17), (u' 18), (u' 19), (u' 20), (u' 21), (u' 22), (u' 23), (u' 24), undef] ∧ (∃ t : Blks, ([] : Blks) = [] ++ t) ∧ ([] : Bigs) ⊆ []) ∧ (∀ (k1 : Nat) (ξ2 : Nat → Int) (u3 : Nat → Value) (α4 : Nat → Option Addr × Nat), (0 ≤ ξ2 0 ∧ ξ2 0 ≤ leastQ y s ∧ leastQ y s ≤ ξ2 1 ∧ ξ2 1 ≤ 1001) → (((decide ((ξ2 0) < (ξ2 1))) = true → Value.int .i64 (IntKind.i64.wrap ((ξ2 0) + (ξ2 1))) = .int .i64 ((ξ2 0) + (ξ2 1)) ∧ Value.int .u64 (IntKind.u64.wrap (((ξ2 0) + (ξ2 1)))) = .int .u64 ((ξ2 0) + (ξ2 1)) ∧ Value.int .u64 (Int.fdiv ((ξ2 0) + (ξ2 1)) (2 ^ 1)) = .int .u64 (((ξ2 0) + (ξ2 1)) / 2) ∧ Value.int .i64 (IntKind.i64.wrap ((((ξ2 0) + (ξ2 1)) / 2))) = .int .i64 (((ξ2 0) + (ξ2 1)) / 2) ∧ CallV Tryd.prog w [] [] 106 #[.int .i64 (((ξ2 0) + (ξ2 1)) / 2), .pointer (some ⟨b1, 0, none⟩), .pointer (some ⟨b2, 0, none⟩)] (.bool (passB y s (((ξ2 0) + (ξ2 1)) / 2))) ∧ (((!(passB y s (((ξ2 0) + (ξ2 1)) / 2))) = true → Value.int .i64 (IntKind.i64.wrap ((((ξ2 0) + (ξ2 1)) / 2) + 1)) = .int .i64 ((((ξ2 0) + (ξ2 1)) / 2) + 1) ∧ (.int .i64 ((((ξ2 0) + (ξ2 1)) / 2) + 1) : Value) = .int .i64 ((pr2 ((((ξ2 0) + (ξ2 1)) / 2) + 1) (ξ2 1)) 0) ∧ (.int .i64 (ξ2 1) : Value) = .int .i64 ((pr2 ((((ξ2 0) + (ξ2 1)) / 2) + 1) (ξ2 1)) 1) ∧ ((walkTodo 21 [true, true] [.code (Tryd.f105.body.getD .skip)]) = (walkTodo 7 [] [.code (Tryd.f105.body.getD .skip)]) ∧ ∃ (k' : Nat) (ξ' : Nat → Int) (u' : Nat → Value) (α' : Nat → Option Addr × Nat), (0 ≤ ξ' 0 ∧ ξ' 0 ≤ leastQ y s ∧ leastQ y s ≤ ξ' 1 ∧ ξ' 1 ≤ 1001) ∧ ((ξ' 1 - ξ' 0).toNat) < ((ξ2 1 - ξ2 0).toNat) ∧ (#[.int .i64 1001, .func (.func 106) #[] #[.pointer (some ⟨b1, 0, none⟩), .pointer (some ⟨b2, 0, none⟩)], undef, undef, .int .i64 0, .int .i64 ((pr2 ((((ξ2 0) + (ξ2 1)) / 2) + 1) (ξ2 1)) 0), .int .i64 ((pr2 ((((ξ2 0) + (ξ2 1)) / 2) + 1) (ξ2 1)) 1), .int .i64 (((ξ2 0) + (ξ2 1)) / 2), .int .i64 1001, .int .i64 (ξ2 0), .int .i64 (ξ2 1), .bool true, .int .i64 (ξ2 0), .int .i64 (ξ2 1), .int .i64 ((ξ2 0) + (ξ2 1)), .int .u64 ((ξ2 0) + (ξ2 1)), .int .u64 (((ξ2 0) + (ξ2 1)) / 2), .int .i64 (((ξ2 0) + (ξ2 1)) / 2), .func (.func 106) #[] #[.pointer (some ⟨b1, 0, none⟩), .pointer (some ⟨b2, 0, none⟩)], .int .i64 (((ξ2 0) + (ξ2 1)) / 2), .bool (passB y s (((ξ2 0) + (ξ2 1)) / 2)), .bool true, .int .i64 (((ξ2 0) + (ξ2 1)) / 2), .int .i64 ((((ξ2 0) + (ξ2 1)) / 2) + 1), (u3 24), undef] : Array Value) = #[.int .i64 1001, .func (.func 106) #[] #[.pointer (some ⟨b1, 0, none⟩), .pointer (some ⟨b2, 0, none⟩)], undef, undef, .int .i64 0, .int .i64 (ξ' 0), .int .i64 (ξ' 1), (u' 7), .int .i64 1001, (u' 9), (u' 10), (u' 11), (u' 12), (u' 13), (u' 14), (u' 15), (u' 16), (u' 17), (u' 18), (u' 19), (u' 20), (u' 21), (u' 22), (u' 23), (u' 24), undef] ∧ (∃ t : Blks, ([] : Blks) = [] ++ t) ∧ ([] : Bigs) ⊆ [])) ∧ ((!(passB y s (((ξ2 0) + (ξ2 1)) / 2))) = false → (.int .i64 (ξ2 0) : Value) = .int .i64 ((pr2 (ξ2 0) (((ξ2 0) + (ξ2 1)) / 2)) 0) ∧ (.int .i64 (((ξ2 0) + (ξ2 1)) / 2) : Value) = .int .i64 ((pr2 (ξ2 0) (((ξ2 0) + (ξ2 1)) / 2)) 1) ∧ ((walkTodo 21 [true, false] [.code (Tryd.f105.body.getD .skip)]) = (walkTodo 7 [] [.code (Tryd.f105.body.getD .skip)]) ∧ ∃ (k' : Nat) (ξ' : Nat → Int) (u' : Nat → Value) (α' : Nat → Option Addr × Nat), (0 ≤ ξ' 0 ∧ ξ' 0 ≤ leastQ y s ∧ leastQ y s ≤ ξ' 1 ∧ ξ' 1 ≤ 1001) ∧ ((ξ' 1 - ξ' 0).toNat) < ((ξ2 1 - ξ2 0).toNat) ∧ (#[.int .i64 1001, .func (.func 106) #[] #[.pointer (some ⟨b1, 0, none⟩), .pointer (some ⟨b2, 0, none⟩)], undef, undef, .int .i64 0, .int .i64 ((pr2 (ξ2 0) (((ξ2 0) + (ξ2 1)) / 2)) 0), .int .i64 ((pr2 (ξ2 0) (((ξ2 0) + (ξ2 1)) / 2)) 1), .int .i64 (((ξ2 0) + (ξ2 1)) / 2), .int .i64 1001, .int .i64 (ξ2 0), .int .i64 (ξ2 1), .bool true, .int .i64 (ξ2 0), .int .i64 (ξ2 1), .int .i64 ((ξ2 0) + (ξ2 1)), .int .u64 ((ξ2 0) + (ξ2 1)), .int .u64 (((ξ2 0) + (ξ2 1)) / 2), .int .i64 (((ξ2 0) + (ξ2 1)) / 2), .func (.func 106) #[] #[.pointer (some ⟨b1, 0, none⟩), .pointer (some ⟨b2, 0, none⟩)], .int .i64 (((ξ2 0) + (ξ2 1)) / 2), .bool (passB y s (((ξ2 0) + (ξ2 1)) / 2)), .bool false, (u3 22), (u3 23), .int .i64 (((ξ2 0) + (ξ2 1)) / 2), undef] : Array Value) = #[.int .i64 1001, .func (.func 106) #[] #[.pointer (some ⟨b1, 0, none⟩), .pointer (some ⟨b2, 0, none⟩)], undef, undef, .int .i64 0, .int .i64 (ξ' 0), .int .i64 (ξ' 1), (u' 7), .int .i64 1001, (u' 9), (u' 10), (u' 11), (u' 12), (u' 13), (u' 14), (u' 15), (u' 16), (u' 17), (u' 18), (u' 19), (u' 20), (u' 21), (u' 22), (u' 23), (u' 24), undef] ∧ (∃ t : Blks, ([] : Blks) = [] ++ t) ∧ ([] : Bigs) ⊆ [])))) ∧ ((decide ((ξ2 0) < (ξ2 1))) = false → (True) ∧ (LeafV R w [] [] (.int .i64 (ξ2 0))))))) : Calls Tryd.prog 105 #[.int .i64 1001, .func (.func 106) #[] #[.pointer (some ⟨b1, 0, none⟩), .pointer (some ⟨b2, 0, none⟩)]] w R :=
  calls_of_plan (f := 105) (es := []) (c := Tryd.f105.body.getD .skip) (tmps := #[.int .i64 1001, .func (.func 106) #[] #[.pointer (some ⟨b1, 0, none⟩), .pointer (some ⟨b2, 0, none⟩)], undef, undef, undef, undef, undef, undef, undef, undef, undef, undef, undef, undef, undef, undef, undef, undef, undef, undef, undef, undef, undef, undef, undef, undef])
    (.s [.c, .c, .v, .c, .c, .c, .v, .v, .v, .c, .c, .c, .c] (.loop (fun k' ξ' => 0 ≤ ξ' 0 ∧ ξ' 0 ≤ leastQ y s ∧ leastQ y s ≤ ξ' 1 ∧ ξ' 1 ≤ 1001) (fun k' ξ' => (ξ' 1 - ξ' 0).toNat) (fun k' ξ' u' α' => (#[.int .i64 1001, .func (.func 106) #[] #[.pointer (some ⟨b1, 0, none⟩), .pointer (some ⟨b2, 0, none⟩)], undef, undef, .int .i64 0, .int .i64 (ξ' 0), .int .i64 (ξ' 1), (u' 7), .int .i64 1001, (u' 9), (u' 10), (u' 11), (u' 12), (u' 13), (u' 14), (u' 15), (u' 16), (u' 17), (u' 18), (u' 19), (u' 20), (u' 21), (u' 22), (u' 23), (u' 24), undef], [], [])) (fun k1 ξ2 u3 α4 => .s [.c, .c, .c, .v, .v, .v, .c] (.split 11 (.s [.c, .c, .c, .c, .c, .v, .v, .v, .setv 14 (.int .i64 ((ξ2 0) + (ξ2 1))), .v, .setv 15 (.int .u64 ((ξ2 0) + (ξ2 1))), .v, .setv 16 (.int .u64 (((ξ2 0) + (ξ2 1)) / 2)), .v, .setv 17 (.int .i64 (((ξ2 0) + (ξ2 1)) / 2)), .v, .c, .c, .c, .v, .v, .call (.bool (passB y s (((ξ2 0) + (ξ2 1)) / 2))), .v, .c] (.split 21 (.s [.c, .c, .v, .v, .setv 23 (.int .i64 ((((ξ2 0) + (ξ2 1)) / 2) + 1)), .v, .c, .c, .c, .setv 5 (.int .i64 ((pr2 ((((ξ2 0) + (ξ2 1)) / 2) + 1) (ξ2 1)) 0)), .setv 6 (.int .i64 ((pr2 ((((ξ2 0) + (ξ2 1)) / 2) + 1) (ξ2 1)) 1))] (.again 0)) (.s [.c, .c, .v, .v, .c, .c, .c, .setv 5 (.int .i64 ((pr2 (ξ2 0) (((ξ2 0) + (ξ2 1)) / 2)) 0)), .setv 6 (.int .i64 ((pr2 (ξ2 0) (((ξ2 0) + (ξ2 1)) / 2)) 1))] (.again 0)))) (.s [.c, .c, .c, .c, .v, .v, .c] (.ret []))))))
    (by kernel_rfl) hG hE Tryd.func105 (by kernel_rfl) (by kernel_rfl) (Eq.mpr (by kernel_rfl) h)
set_option maxRecDepth 1000000 in
set_option maxHeartbeats 8000000 in
theorem gate_Search (y s : Int) (b1 b2 : Nat) (hr : rightB y s = true) (hy : I64 y) (hs : I64 s) (w : World) (hg : GN w) (h1 : w.cell? ⟨b1, 0, none⟩ = some (.int .i64 y)) (h2 : w.cell? ⟨b2, 0, none⟩ = some (.int .i64 s)) : Calls Tryd.prog 105 #[.int .i64 1001, .func (.func 106) #[] #[.pointer (some ⟨b1, 0, none⟩), .pointer (some ⟨b2, 0, none⟩)]] w (fun e w' => e = .returned (.int .i64 (leastQ y s)) ∧ Below w.heap.size w w') := by
  refine gate_Search_plan y s b1 b2 w _ (St.refl w) Ex.nil ?_
  refine ⟨?_, ?_⟩
  · refine ⟨0, (pr2 0 1001), fun i => match i with | 7 => undef | 9 => undef | 10 => undef | 11 => undef | 12 => undef | 13 => undef | 14 => undef | 15 => undef | 16 => undef | 17 => undef | 18 => undef | 19 => undef | 20 => undef | 21 => undef | 22 => undef | 23 => undef | 24 => undef | _ => undef, fun _ => (none, 0), ?_, by kernel_rfl, ⟨[], by kernel_rfl⟩, by simp⟩
    have Q := leastQ_in (y := y) (right_true hr).2.2
    simp only [pr2]; omega
  · intro k1 ξ2 u3 α4 hI
    refine ⟨?_, ?_⟩
    · intro h5
      have h5p : (ξ2 0) < (ξ2 1) := by simpa using h5
      refine ⟨congrArg (Value.int .i64) (wrapI (by omega)), congrArg (Value.int .u64) (u64w (by omega)), congrArg (Value.int .u64) (shr_eq _ 1), congrArg (Value.int .i64) (wrapI (by omega)), (CallV.be fun W hS => gate_Least1 y s (((ξ2 0) + (ξ2 1)) / 2) b1 b2 hy hs (by unfold I64; omega) W (hg.below hS.bl) (cell_bl hS.bl h1) (cell_bl hS.bl h2)), ?_⟩
      refine ⟨?_, ?_⟩
      · intro h60
        have h6 : (passB y s (((ξ2 0) + (ξ2 1)) / 2)) = false := by simpa using h60
        refine ⟨congrArg (Value.int .i64) (wrapI (by omega)), rfl, rfl, ?_⟩
        refine ⟨by kernel_rfl, (k1 + 1), (pr2 ((((ξ2 0) + (ξ2 1)) / 2) + 1) (ξ2 1)), fun i => match i with | 7 => .int .i64 (((ξ2 0) + (ξ2 1)) / 2) | 9 => .int .i64 (ξ2 0) | 10 => .int .i64 (ξ2 1) | 11 => .bool true | 12 => .int .i64 (ξ2 0) | 13 => .int .i64 (ξ2 1) | 14 => .int .i64 ((ξ2 0) + (ξ2 1)) | 15 => .int .u64 ((ξ2 0) + (ξ2 1)) | 16 => .int .u64 (((ξ2 0) + (ξ2 1)) / 2) | 17 => .int .i64 (((ξ2 0) + (ξ2 1)) / 2) | 18 => .func (.func 106) #[] #[.pointer (some ⟨b1, 0, none⟩), .pointer (some ⟨b2, 0, none⟩)] | 19 => .int .i64 (((ξ2 0) + (ξ2 1)) / 2) | 20 => .bool (passB y s (((ξ2 0) + (ξ2 1)) / 2)) | 21 => .bool true | 22 => .int .i64 (((ξ2 0) + (ξ2 1)) / 2) | 23 => .int .i64 ((((ξ2 0) + (ξ2 1)) / 2) + 1) | 24 => (u3 24) | _ => undef, fun _ => (none, 0), ?_, ?_, by kernel_rfl, ⟨[], by kernel_rfl⟩, by simp⟩
        · have P := (pass_mid (g := (((ξ2 0) + (ξ2 1)) / 2)) hr (by omega) (by omega)).2 h6
          simp only [pr2]; omega
        · simp only [pr2]; omega
      · intro h70
        have h7 : (passB y s (((ξ2 0) + (ξ2 1)) / 2)) = true := by simpa using h70
        refine ⟨rfl, rfl, ?_⟩
        refine ⟨by kernel_rfl, (k1 + 1), (pr2 (ξ2 0) (((ξ2 0) + (ξ2 1)) / 2)), fun i => match i with | 7 => .int .i64 (((ξ2 0) + (ξ2 1)) / 2) | 9 => .int .i64 (ξ2 0) | 10 => .int .i64 (ξ2 1) | 11 => .bool true | 12 => .int .i64 (ξ2 0) | 13 => .int .i64 (ξ2 1) | 14 => .int .i64 ((ξ2 0) + (ξ2 1)) | 15 => .int .u64 ((ξ2 0) + (ξ2 1)) | 16 => .int .u64 (((ξ2 0) + (ξ2 1)) / 2) | 17 => .int .i64 (((ξ2 0) + (ξ2 1)) / 2) | 18 => .func (.func 106) #[] #[.pointer (some ⟨b1, 0, none⟩), .pointer (some ⟨b2, 0, none⟩)] | 19 => .int .i64 (((ξ2 0) + (ξ2 1)) / 2) | 20 => .bool (passB y s (((ξ2 0) + (ξ2 1)) / 2)) | 21 => .bool false | 22 => (u3 22) | 23 => (u3 23) | 24 => .int .i64 (((ξ2 0) + (ξ2 1)) / 2) | _ => undef, fun _ => (none, 0), ?_, ?_, by kernel_rfl, ⟨[], by kernel_rfl⟩, by simp⟩
        · have P := (pass_mid (g := (((ξ2 0) + (ξ2 1)) / 2)) hr (by omega) (by omega)).1 h7
          simp only [pr2]; omega
        · simp only [pr2]; omega
    · intro h8
      have h8p : ¬ ((ξ2 0) < (ξ2 1)) := by simpa using h8
      refine ⟨trivial, ?_⟩
      have Q : (ξ2 0) = leastQ y s := by omega
      exact fun W hS => ⟨by rw [Q], hS.bl⟩
set_option maxRecDepth 1000000 in
set_option maxHeartbeats 8000000 in
theorem gate_Least_plan (y s : Int) (w : World) (R : Ending → World → Prop) (hG : St w w [] []) (hE : Ex w [])
    (h : ∀ r1 : Nat, ∀ r2 : Nat, r1 = r1 ∧ r2 = r2 ∧ CallV Tryd.prog w [(r1, [.int .i64 y]), (r2, [.int .i64 s])] [] 104 #[.int .i64 y, .int .i64 s] (.bool (rightB y s)) ∧ (((!(rightB y s)) = true → (True) ∧ (LeafV R w [(r1, [.int .i64 y]), (r2, [.int .i64 s])] [] (.tuple #[.int .i64 0, .int .i64 1]))) ∧ ((!(rightB y s)) = false → CallV Tryd.prog w [(r1, [.int .i64 y]), (r2, [.int .i64 s])] [] 105 #[.int .i64 1001, .func (.func 106) #[] #[.pointer (some ⟨r1, 0, none⟩), .pointer (some ⟨r2, 0, none⟩)]] (.int .i64 (leastQ y s)) ∧ (((decide ((leastQ y s) > 1000)) = true → (True) ∧ (LeafV R w [(r1, [.int .i64 y]), (r2, [.int .i64 s])] [] (.tuple #[.int .i64 0, .int .i64 2]))) ∧ ((decide ((leastQ y s) > 1000)) = false → (True) ∧ (LeafV R w [(r1, [.int .i64 y]), (r2, [.int .i64 s])] [] (.tuple #[.int .i64 (leastQ y s), .int .i64 0]))))))) : Calls Tryd.prog 76 #[.int .i64 y, .int .i64 s] w R :=
  calls_of_plan (f := 76) (es := []) (c := Tryd.f76.body.getD .skip) (tmps := #[.int .i64 y, .int .i64 s, undef, undef, undef, undef, undef, undef, undef, undef, undef, undef, undef, undef, undef, undef])
    (.s [.c, .c] (.new (fun r1 => .new (fun r2 => .s [.v, .v, .c, .c, .c, .c, .own 0, .own 1, .call (.bool (rightB y s)), .v, .c] (.split 10 (.s [.c, .c, .c, .v, .v, .c] (.ret [])) (.s [.c, .c, .c, .c, .v, .call (.int .i64 (leastQ y s)), .v, .c, .c, .c, .c, .v, .v, .c] (.split 14 (.s [.c, .c, .c, .v, .v, .c] (.ret [])) (.s [.c, .c, .c, .c, .v, .v, .v, .c] (.ret [])))))))))
    (by kernel_rfl) hG hE Tryd.func76 (by kernel_rfl) (by kernel_rfl) (Eq.mpr (by kernel_rfl) h)
set_option maxRecDepth 1000000 in
set_option maxHeartbeats 8000000 in
theorem gate_Least (y s : Int) (hy : I64 y) (hs : I64 s) (w : World) (hg : GN w) : Calls Tryd.prog 76 #[.int .i64 y, .int .i64 s] w (fun e w' => e = .returned (.tuple #[.int .i64 (leastV y s), .int .i64 (leastE y s)]) ∧ Below w.heap.size w w') := by
  refine gate_Least_plan y s w _ (St.refl w) Ex.nil ?_
  intro r1
  intro r2
  refine ⟨rfl, rfl, (CallV.be fun W hS => gate_right y s W), ?_⟩
  refine ⟨?_, ?_⟩
  · intro h30
    have h3 : (rightB y s) = false := by simpa using h30
    refine ⟨trivial, ?_⟩
    have F := leastV_no h3
    exact fun W hS => ⟨by rw [F.1, F.2], hS.bl⟩
  · intro h40
    have h4 : (rightB y s) = true := by simpa using h40
    obtain ⟨hr1, hr2, hr3⟩ := right_true h4
    refine ⟨(CallV.be fun W hS => gate_Search y s r1 r2 h4 hy hs W (hg.below hS.bl) (hS.cell 0 0 rfl rfl) (hS.cell 1 0 rfl rfl)), ?_⟩
    refine ⟨?_, ?_⟩
    · intro h5
      have h5p : (leastQ y s) > 1000 := by simpa using h5
      refine ⟨trivial, ?_⟩
      have F := leastV_hi h4 h5p
      exact fun W hS => ⟨by rw [F.1, F.2], hS.bl⟩
    · intro h6
      have h6p : ¬ ((leastQ y s) > 1000) := by simpa using h6
      refine ⟨trivial, ?_⟩
      have F := leastV_lo h4 h6p
      exact fun W hS => ⟨by rw [F.1, F.2], hS.bl⟩
end Go.Proofs.YtpdggnocnaaanaaDoor
