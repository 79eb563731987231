/- Walks of layer 12 (joseph) and of its reference, by plans: State. -/
import Derived.Test.YtfbhcaocfajjpaaDoorVc
namespace Go.Proofs.YtfbhcaocfajjpaaDoor
open Go.RowKit
set_option linter.unusedSimpArgs false
set_option linter.unusedVariables false
def jsB (x k : Nat → Int) (y : Int) : Bool := fits3 x && (fits3 k && fitB y)
def jsE (x k : Nat → Int) (y : Int) : Int := if jsB x k y then (if vscE k y == 0 then vaddE x (vscV k y) else 3) else 1
def jsV (x k : Nat → Int) (y : Int) (i : Nat) : Int := if jsB x k y && vscE k y == 0 then vaddV x (vscV k y) i else 0
theorem js_1 {x k : Nat → Int} {y : Int} (h : jsB x k y = false) : jsE x k y = 1 ∧ ∀ i, jsV x k y i = 0 := ⟨by unfold jsE; rw [h]; rfl, fun i => by unfold jsV; rw [h]; rfl⟩
theorem js_2 {x k : Nat → Int} {y : Int} (h : jsB x k y = true) (h2 : ¬ vscE k y = 0) : jsE x k y = 3 ∧ ∀ i, jsV x k y i = 0 := by
  have e : (vscE k y == 0) = false := by simpa using h2
  exact ⟨by unfold jsE; rw [h, e]; rfl, fun i => by unfold jsV; rw [h, e]; rfl⟩
theorem js_3 {x k : Nat → Int} {y : Int} (h : jsB x k y = true) (h2 : vscE k y = 0) : jsE x k y = vaddE x (vscV k y) ∧ ∀ i, jsV x k y i = vaddV x (vscV k y) i := by
  have e : (vscE k y == 0) = true := by simpa using h2
  exact ⟨by unfold jsE; rw [h, e]; rfl, fun i => by unfold jsV; rw [h, e]; rfl⟩
theorem toE_03 (z : Int) : toE z = 0 ∨ toE z = 3 := by unfold toE; split <;> simp
theorem vscE_3 {k : Nat → Int} {y : Int} (h : fits3 k = true) (h2 : fitB y = true) (h3 : ¬ vscE k y = 0) : vscE k y = 3 := by
  obtain ⟨f0, f1, f2⟩ := fits3_at h
  have e := (vsc_yes h h2).1
  have a : ∀ i, fitB (k i) = true → vscY k y i = toE (mulZ (k i) y) := fun i q => (both_yes q h2).2
  rw [a 0 f0, a 1 f1, a 2 f2] at e
  rw [e] at h3 ⊢
  have t0 := toE_03 (mulZ (k 0) y)
  have t1 := toE_03 (mulZ (k 1) y)
  have t2 := toE_03 (mulZ (k 2) y)
  unfold eE at h3 ⊢
  (repeat' split) <;> simp_all
set_option maxRecDepth 1000000 in
set_option maxHeartbeats 8000000 in
theorem joseph_State_plan (x k : Nat → Int) (y : Int) (w : World) (R : Ending → World → Prop) (hG : St w w [] []) (hE : Ex w [])
    (h : ∀ r1 : Nat, ∀ r2 : Nat, ∀ r3 : Nat, r1 = r1 ∧ CallV Tryd.prog w [(r1, [.int .i64 (x 0), .int .i64 (x 1), .int .i64 (x 2)]), (r2, [.int .i64 (k 0), .int .i64 (k 1), .int .i64 (k 2)]), (r3, [.int .i64 0, .int .i64 0, .int .i64 0])] [] 43 #[.agg #[.int .i64 (x 0), .int .i64 (x 1), .int .i64 (x 2)]] (.bool (fits3 x)) ∧ (((!(fits3 x)) = true → (r3 = r3 ∧ (r3 = r3 ∧ (r3 = r3 ∧ (True)))) ∧ (r3 = r3 ∧ (True)) ∧ (LeafV R w [(r1, [.int .i64 (x 0), .int .i64 (x 1), .int .i64 (x 2)]), (r2, [.int .i64 (k 0), .int .i64 (k 1), .int .i64 (k 2)]), (r3, [.int .i64 0, .int .i64 0, .int .i64 0])] [] (.tuple #[.agg #[.int .i64 0, .int .i64 0, .int .i64 0], .int .i64 1]))) ∧ ((!(fits3 x)) = false → r2 = r2 ∧ CallV Tryd.prog w [(r1, [.int .i64 (x 0), .int .i64 (x 1), .int .i64 (x 2)]), (r2, [.int .i64 (k 0), .int .i64 (k 1), .int .i64 (k 2)]), (r3, [.int .i64 0, .int .i64 0, .int .i64 0])] [] 43 #[.agg #[.int .i64 (k 0), .int .i64 (k 1), .int .i64 (k 2)]] (.bool (fits3 k)) ∧ (((!(fits3 k)) = true → (r3 = r3 ∧ (r3 = r3 ∧ (r3 = r3 ∧ (True)))) ∧ (r3 = r3 ∧ (True)) ∧ (LeafV R w [(r1, [.int .i64 (x 0), .int .i64 (x 1), .int .i64 (x 2)]), (r2, [.int .i64 (k 0), .int .i64 (k 1), .int .i64 (k 2)]), (r3, [.int .i64 0, .int .i64 0, .int .i64 0])] [] (.tuple #[.agg #[.int .i64 0, .int .i64 0, .int .i64 0], .int .i64 1]))) ∧ ((!(fits3 k)) = false → CallV Tryd.prog w [(r1, [.int .i64 (x 0), .int .i64 (x 1), .int .i64 (x 2)]), (r2, [.int .i64 (k 0), .int .i64 (k 1), .int .i64 (k 2)]), (r3, [.int .i64 0, .int .i64 0, .int .i64 0])] [] 46 #[.int .i64 y] (.bool (fitB y)) ∧ (((!(fitB y)) = true → (r3 = r3 ∧ (r3 = r3 ∧ (r3 = r3 ∧ (True)))) ∧ (r3 = r3 ∧ (True)) ∧ (LeafV R w [(r1, [.int .i64 (x 0), .int .i64 (x 1), .int .i64 (x 2)]), (r2, [.int .i64 (k 0), .int .i64 (k 1), .int .i64 (k 2)]), (r3, [.int .i64 0, .int .i64 0, .int .i64 0])] [] (.tuple #[.agg #[.int .i64 0, .int .i64 0, .int .i64 0], .int .i64 1]))) ∧ ((!(fitB y)) = false → r2 = r2 ∧ CallV Tryd.prog w [(r1, [.int .i64 (x 0), .int .i64 (x 1), .int .i64 (x 2)]), (r2, [.int .i64 (k 0), .int .i64 (k 1), .int .i64 (k 2)]), (r3, [.int .i64 0, .int .i64 0, .int .i64 0])] [] 72 #[.agg #[.int .i64 (k 0), .int .i64 (k 1), .int .i64 (k 2)], .int .i64 y] (.tuple #[.agg #[.int .i64 (vscV k y 0), .int .i64 (vscV k y 1), .int .i64 (vscV k y 2)], .int .i64 (vscE k y)]) ∧ (∀ r10 : Nat, (r10 = r10 ∧ (r10 = r10 ∧ (r10 = r10 ∧ (True)))) ∧ ((((vscE k y) != 0) = true → (r3 = r3 ∧ (r3 = r3 ∧ (r3 = r3 ∧ (True)))) ∧ (r3 = r3 ∧ (True)) ∧ (LeafV R w [(r1, [.int .i64 (x 0), .int .i64 (x 1), .int .i64 (x 2)]), (r2, [.int .i64 (k 0), .int .i64 (k 1), .int .i64 (k 2)]), (r3, [.int .i64 0, .int .i64 0, .int .i64 0]), (r10, [.int .i64 (vscV k y 0), .int .i64 (vscV k y 1), .int .i64 (vscV k y 2)])] [] (.tuple #[.agg #[.int .i64 0, .int .i64 0, .int .i64 0], .int .i64 (vscE k y)]))) ∧ (((vscE k y) != 0) = false → r1 = r1 ∧ r10 = r10 ∧ CallV Tryd.prog w [(r1, [.int .i64 (x 0), .int .i64 (x 1), .int .i64 (x 2)]), (r2, [.int .i64 (k 0), .int .i64 (k 1), .int .i64 (k 2)]), (r3, [.int .i64 0, .int .i64 0, .int .i64 0]), (r10, [.int .i64 (vscV k y 0), .int .i64 (vscV k y 1), .int .i64 (vscV k y 2)])] [] 73 #[.agg #[.int .i64 (x 0), .int .i64 (x 1), .int .i64 (x 2)], .agg #[.int .i64 (vscV k y 0), .int .i64 (vscV k y 1), .int .i64 (vscV k y 2)]] (.tuple #[.agg #[.int .i64 (vaddV x (vscV k y) 0), .int .i64 (vaddV x (vscV k y) 1), .int .i64 (vaddV x (vscV k y) 2)], .int .i64 (vaddE x (vscV k y))]) ∧ (r3 = r3 ∧ (r3 = r3 ∧ (r3 = r3 ∧ (True)))) ∧ (r3 = r3 ∧ (True)) ∧ (LeafV R w [(r1, [.int .i64 (x 0), .int .i64 (x 1), .int .i64 (x 2)]), (r2, [.int .i64 (k 0), .int .i64 (k 1), .int .i64 (k 2)]), (r3, [.int .i64 (vaddV x (vscV k y) 0), .int .i64 (vaddV x (vscV k y) 1), .int .i64 (vaddV x (vscV k y) 2)]), (r10, [.int .i64 (vscV k y 0), .int .i64 (vscV k y 1), .int .i64 (vscV k y 2)])] [] (.tuple #[.agg #[.int .i64 (vaddV x (vscV k y) 0), .int .i64 (vaddV x (vscV k y) 1), .int .i64 (vaddV x (vscV k y) 2)], .int .i64 (vaddE x (vscV k y))])))))))))))) : Calls Tryd.prog 27 #[.agg #[.int .i64 (x 0), .int .i64 (x 1), .int .i64 (x 2)], .agg #[.int .i64 (k 0), .int .i64 (k 1), .int .i64 (k 2)], .int .i64 y] w R :=
  calls_of_plan (f := 27) (es := []) (c := Tryd.f27.body.getD .skip) (tmps := #[.agg #[.int .i64 (x 0), .int .i64 (x 1), .int .i64 (x 2)], .agg #[.int .i64 (k 0), .int .i64 (k 1), .int .i64 (k 2)], .int .i64 y, undef, undef, undef, undef, undef, undef, undef, undef, undef, undef, undef, undef, undef, undef, undef, undef, undef, undef, undef, undef, undef, undef, undef, undef, undef, undef, undef, undef, undef, undef, undef, undef, undef, undef, undef, undef])
    (.s [.c, .c] (.new (fun r1 => .new (fun r2 => .new (fun r3 => .s [.v, .c, .c, .c, .c, .own 0, .call (.bool (fits3 x)), .v, .v] (.split 13 (.s [.u, .u, .u, .v, .v, .u, .u, .u, .v, .c, .c, .c, .c, .v, .put 2, .v, .c] (.ret [2])) (.s [.own 1, .call (.bool (fits3 k)), .v, .v, .v] (.split 18 (.s [.u, .u, .u, .v, .c, .c, .c, .c, .v, .put 2, .v, .c] (.ret [2])) (.s [.v, .call (.bool (fitB y)), .v, .v, .c] (.split 22 (.s [.c, .c, .c, .v, .put 2, .v, .c] (.ret [2])) (.s [.c, .c, .c, .c, .own 1, .v, .call (.tuple #[.agg #[.int .i64 (vscV k y 0), .int .i64 (vscV k y 1), .int .i64 (vscV k y 2)], .int .i64 (vscE k y)]), .v, .v, .v] (.new (fun r10 => .s [.put 3, .v, .c, .c, .c, .c, .v, .v, .c] (.split 31 (.s [.c, .c, .c, .v, .v, .put 2, .v, .c] (.ret [2])) (.s [.c, .c, .c, .c, .own 0, .own 3, .call (.tuple #[.agg #[.int .i64 (vaddV x (vscV k y) 0), .int .i64 (vaddV x (vscV k y) 1), .int .i64 (vaddV x (vscV k y) 2)], .int .i64 (vaddE x (vscV k y))]), .v, .v, .put 2, .v, .c] (.ret [2]))))))))))))))))
    (by kernel_rfl) hG hE Tryd.func27 (by kernel_rfl) (by kernel_rfl) (Eq.mpr (by kernel_rfl) h)
set_option maxRecDepth 1000000 in
set_option maxHeartbeats 8000000 in
theorem joseph_State (x k : Nat → Int) (y : Int) (hx : ∀ i, I64 (x i)) (hk : ∀ i, I64 (k i)) (hy : I64 y) (w : World) (hg : GN w) : Calls Tryd.prog 27 #[.agg #[.int .i64 (x 0), .int .i64 (x 1), .int .i64 (x 2)], .agg #[.int .i64 (k 0), .int .i64 (k 1), .int .i64 (k 2)], .int .i64 y] w (fun e w' => e = .returned (.tuple #[.agg #[.int .i64 (jsV x k y 0), .int .i64 (jsV x k y 1), .int .i64 (jsV x k y 2)], .int .i64 (jsE x k y)]) ∧ Below w.heap.size w w') := by
  refine joseph_State_plan x k y w _ (St.refl w) Ex.nil ?_
  intro r1
  intro r2
  intro r3
  refine ⟨rfl, (CallV.be fun W hS => vec_Fits x hx W), ?_⟩
  refine ⟨?_, ?_⟩
  · intro h40
    have h4 : (fits3 x) = false := by simpa using h40
    refine ⟨⟨rfl, rfl, rfl, trivial⟩, ⟨rfl, trivial⟩, ?_⟩
    have F := js_1 (x := x) (k := k) (y := y) (by unfold jsB; simp [h4])
    exact fun W hS => ⟨by simp only [F.1, F.2], hS.bl⟩
  · intro h50
    have h5 : (fits3 x) = true := by simpa using h50
    refine ⟨rfl, (CallV.be fun W hS => vec_Fits k hk W), ?_⟩
    refine ⟨?_, ?_⟩
    · intro h60
      have h6 : (fits3 k) = false := by simpa using h60
      refine ⟨⟨rfl, rfl, rfl, trivial⟩, ⟨rfl, trivial⟩, ?_⟩
      have F := js_1 (x := x) (k := k) (y := y) (by unfold jsB; simp [h6])
      exact fun W hS => ⟨by simp only [F.1, F.2], hS.bl⟩
    · intro h70
      have h7 : (fits3 k) = true := by simpa using h70
      refine ⟨(CallV.of fun W hS => fix_Fits y  W ), ?_⟩
      refine ⟨?_, ?_⟩
      · intro h80
        have h8 : (fitB y) = false := by simpa using h80
        refine ⟨⟨rfl, rfl, rfl, trivial⟩, ⟨rfl, trivial⟩, ?_⟩
        have F := js_1 (x := x) (k := k) (y := y) (by unfold jsB; simp [h8])
        exact fun W hS => ⟨by simp only [F.1, F.2], hS.bl⟩
      · intro h90
        have h9 : (fitB y) = true := by simpa using h90
        refine ⟨rfl, (CallV.be fun W hS => vec_Scale k y hk W (hg.below hS.bl)), ?_⟩
        intro r10
        refine ⟨⟨rfl, rfl, rfl, trivial⟩, ?_⟩
        refine ⟨?_, ?_⟩
        · intro h11
          have h11p : ¬ ((vscE k y) = 0) := by simpa using h11
          refine ⟨⟨rfl, rfl, rfl, trivial⟩, ⟨rfl, trivial⟩, ?_⟩
          have B : jsB x k y = true := by unfold jsB; rw [h5, h7, h9]; rfl
          have F := js_2 B h11p
          have G := vscE_3 h7 h9 h11p
          exact fun W hS => ⟨by simp only [F.1, F.2, G], hS.bl⟩
        · intro h12
          have h12p : (vscE k y) = 0 := by simpa using h12
          refine ⟨rfl, rfl, (CallV.be fun W hS => vec_Add x (vscV k y) hx (vscV_i64 _ _) W), ⟨rfl, rfl, rfl, trivial⟩, ⟨rfl, trivial⟩, ?_⟩
          have B : jsB x k y = true := by unfold jsB; rw [h5, h7, h9]; rfl
          have F := js_3 B h12p
          exact fun W hS => ⟨by simp only [F.1, F.2], hS.bl⟩
end Go.Proofs.YtfbhcaocfajjpaaDoor
