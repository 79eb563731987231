/- Walks of layer 2 (fix), by plans: Div. -/
import Derived.Test.YtpdggnocnaaanaaDoorFc
import Derived.Test.YtpdggnocnaaanaaDoorWl
namespace Go.Proofs.YtpdggnocnaaanaaDoor
open Go.RowKit
set_option linter.unusedSimpArgs false
set_option linter.unusedVariables false
theorem divZ_fits {a b : Int} (h : fitB a = true) (hb : b ≠ 0) : W128 (divZ a b) := by
  have k := fitB_true.1 h
  exact ev_W128 (up_40 h) hb (by rw [pow2_40]; unfold LW; omega)
theorem wide_Up_40 (a : Int) (h : fitB a = true) (w : World) (hg : GN w) : Calls Tryd.prog 97 #[.agg #[.int .i64 (whi a), .int .u64 (wlo a)], .int .i64 40] w fun e w' => e = .returned (.tuple #[.agg #[.int .i64 (whi (a * pow2 40)), .int .u64 (wlo (a * pow2 40))], .int .i64 0]) ∧ Below w.heap.size w w' := by
  have k := wide_Up_loop a 40 (by decide) (i64_W128 (fitB_i64 h)) w hg
  have e : up a 40 = a * pow2 40 := rfl
  rw [e, (fitW_of (up_40 h)).1, (fitW_of (up_40 h)).2] at k; exact k
theorem wide_Even_div (a b : Int) (h : fitB a = true) (hb : I64 b) (h0 : b ≠ 0) (w : World) (hg : GN w) (hl : GL w) :
    Calls Tryd.prog 98 #[.agg #[.int .i64 (whi (a * pow2 40)), .int .u64 (wlo (a * pow2 40))], .int .i64 b] w fun e w' => e = .returned (.tuple #[.agg #[.int .i64 (whi (divZ a b)), .int .u64 (wlo (divZ a b))], .int .i64 0]) ∧ Below w.heap.size w w' := by
  have k := wide_Even (a * pow2 40) b (up_40 h) hb w hg hl
  have hk := fitB_true.1 h
  have hn : ¬ (a * pow2 40 = LW ∧ b = -1) := by rw [pow2_40]; unfold LW; omega
  have e : quoV (ev (a * pow2 40) b) (a * pow2 40) b = divZ a b ∧ quoE (a * pow2 40) b = 0 := by unfold quoV quoE; rw [if_neg h0, if_neg hn, if_neg h0, if_neg hn]; exact ⟨rfl, rfl⟩
  rw [e.1, e.2] at k; exact k
theorem wide_Even_div0 (a : Int) (h : fitB a = true) (w : World) (hg : GN w) (hl : GL w) :
    Calls Tryd.prog 98 #[.agg #[.int .i64 (whi (a * pow2 40)), .int .u64 (wlo (a * pow2 40))], .int .i64 0] w fun e w' => e = .returned (.tuple #[.agg #[.int .i64 (whi 0), .int .u64 (wlo 0)], .int .i64 4]) ∧ Below w.heap.size w w' := by
  have k := wide_Even (a * pow2 40) 0 (up_40 h) (by decide) w hg hl
  simp only [quoV, quoE, if_true] at k; exact k
set_option maxRecDepth 1000000 in
set_option maxHeartbeats 8000000 in
theorem fix_Div1_plan (a b : Int) (w : World) (R : Ending → World → Prop) (hG : St w w [] []) (hE : Ex w [])
    (h : ∀ r1 : Nat, CallV Tryd.prog w [(r1, [.int .i64 0, .int .u64 0])] [] 44 #[.int .i64 a] (.agg #[.int .i64 (whi a), .int .u64 (wlo a)]) ∧ CallV Tryd.prog w [(r1, [.int .i64 0, .int .u64 0])] [] 97 #[.agg #[.int .i64 (whi a), .int .u64 (wlo a)], .int .i64 40] (.tuple #[.agg #[.int .i64 (whi (a * pow2 40)), .int .u64 (wlo (a * pow2 40))], .int .i64 0]) ∧ (∀ r2 : Nat, (r2 = r2 ∧ (r2 = r2 ∧ (True))) ∧ r2 = r2 ∧ CallV Tryd.prog w [(r1, [.int .i64 0, .int .u64 0]), (r2, [.int .i64 (whi (a * pow2 40)), .int .u64 (wlo (a * pow2 40))])] [] 98 #[.agg #[.int .i64 (whi (a * pow2 40)), .int .u64 (wlo (a * pow2 40))], .int .i64 b] (.tuple #[.agg #[.int .i64 (whi (divZ a b)), .int .u64 (wlo (divZ a b))], .int .i64 0]) ∧ (r1 = r1 ∧ (r1 = r1 ∧ (True))) ∧ (r1 = r1 ∧ (True)) ∧ (LeafV R w [(r1, [.int .i64 (whi (divZ a b)), .int .u64 (wlo (divZ a b))]), (r2, [.int .i64 (whi (a * pow2 40)), .int .u64 (wlo (a * pow2 40))])] [] (.tuple #[.agg #[.int .i64 (whi (divZ a b)), .int .u64 (wlo (divZ a b))], .int .i64 0])))) : Calls Tryd.prog 96 #[.int .i64 a, .int .i64 b] w R :=
  calls_of_plan (f := 96) (es := []) (c := Tryd.f96.body.getD .skip) (tmps := #[.int .i64 a, .int .i64 b, undef, undef, undef, undef, undef, undef, undef, undef, undef, undef, undef, undef, undef, undef, undef, undef, undef])
    (.s [.c, .c] (.new (fun r1 => .s [.v, .c, .c, .c, .v, .call (.agg #[.int .i64 (whi a), .int .u64 (wlo a)]), .call (.tuple #[.agg #[.int .i64 (whi (a * pow2 40)), .int .u64 (wlo (a * pow2 40))], .int .i64 0]), .v, .v, .v] (.new (fun r2 => .s [.put 1, .v, .c, .c, .c, .own 1, .v, .call (.tuple #[.agg #[.int .i64 (whi (divZ a b)), .int .u64 (wlo (divZ a b))], .int .i64 0]), .v, .v, .put 0, .v, .c] (.ret [0]))))))
    (by kernel_rfl) hG hE Tryd.func96 (by kernel_rfl) (by kernel_rfl) (Eq.mpr (by kernel_rfl) h)
set_option maxRecDepth 1000000 in
set_option maxHeartbeats 8000000 in
theorem fix_Div1 (a b : Int) (h : fitB a = true) (hb : I64 b) (h0 : b ≠ 0) (w : World) (hg : GN w) (hl : GL w) : Calls Tryd.prog 96 #[.int .i64 a, .int .i64 b] w (fun e w' => e = .returned (.tuple #[.agg #[.int .i64 (whi (divZ a b)), .int .u64 (wlo (divZ a b))], .int .i64 0]) ∧ Below w.heap.size w w') := by
  refine fix_Div1_plan a b w _ (St.refl w) Ex.nil ?_
  intro r1
  refine ⟨(CallV.be fun W hS => wide_Of a (fitB_i64 h) W), (CallV.be fun W hS => wide_Up_40 a h W (hg.below hS.bl)), ?_⟩
  intro r2
  refine ⟨⟨rfl, rfl, trivial⟩, rfl, (CallV.be fun W hS => wide_Even_div a b h hb h0 W (hg.below hS.bl) (hl.below hS.bl)), ⟨rfl, rfl, trivial⟩, ⟨rfl, trivial⟩, ?_⟩
  exact fun W hS => ⟨rfl, hS.bl⟩
set_option maxRecDepth 1000000 in
set_option maxHeartbeats 8000000 in
theorem fix_Div10_plan (a : Int) (w : World) (R : Ending → World → Prop) (hG : St w w [] []) (hE : Ex w [])
    (h : ∀ r1 : Nat, CallV Tryd.prog w [(r1, [.int .i64 0, .int .u64 0])] [] 44 #[.int .i64 a] (.agg #[.int .i64 (whi a), .int .u64 (wlo a)]) ∧ CallV Tryd.prog w [(r1, [.int .i64 0, .int .u64 0])] [] 97 #[.agg #[.int .i64 (whi a), .int .u64 (wlo a)], .int .i64 40] (.tuple #[.agg #[.int .i64 (whi (a * pow2 40)), .int .u64 (wlo (a * pow2 40))], .int .i64 0]) ∧ (∀ r2 : Nat, (r2 = r2 ∧ (r2 = r2 ∧ (True))) ∧ r2 = r2 ∧ CallV Tryd.prog w [(r1, [.int .i64 0, .int .u64 0]), (r2, [.int .i64 (whi (a * pow2 40)), .int .u64 (wlo (a * pow2 40))])] [] 98 #[.agg #[.int .i64 (whi (a * pow2 40)), .int .u64 (wlo (a * pow2 40))], .int .i64 0] (.tuple #[.agg #[.int .i64 (whi 0), .int .u64 (wlo 0)], .int .i64 4]) ∧ (r1 = r1 ∧ (r1 = r1 ∧ (True))) ∧ (r1 = r1 ∧ (True)) ∧ (LeafV R w [(r1, [.int .i64 (whi 0), .int .u64 (wlo 0)]), (r2, [.int .i64 (whi (a * pow2 40)), .int .u64 (wlo (a * pow2 40))])] [] (.tuple #[.agg #[.int .i64 (whi 0), .int .u64 (wlo 0)], .int .i64 4])))) : Calls Tryd.prog 96 #[.int .i64 a, .int .i64 0] w R :=
  calls_of_plan (f := 96) (es := []) (c := Tryd.f96.body.getD .skip) (tmps := #[.int .i64 a, .int .i64 0, undef, undef, undef, undef, undef, undef, undef, undef, undef, undef, undef, undef, undef, undef, undef, undef, undef])
    (.s [.c, .c] (.new (fun r1 => .s [.v, .c, .c, .c, .v, .call (.agg #[.int .i64 (whi a), .int .u64 (wlo a)]), .call (.tuple #[.agg #[.int .i64 (whi (a * pow2 40)), .int .u64 (wlo (a * pow2 40))], .int .i64 0]), .v, .v, .v] (.new (fun r2 => .s [.put 1, .v, .c, .c, .c, .own 1, .v, .call (.tuple #[.agg #[.int .i64 (whi 0), .int .u64 (wlo 0)], .int .i64 4]), .v, .v, .put 0, .v, .c] (.ret [0]))))))
    (by kernel_rfl) hG hE Tryd.func96 (by kernel_rfl) (by kernel_rfl) (Eq.mpr (by kernel_rfl) h)
set_option maxRecDepth 1000000 in
set_option maxHeartbeats 8000000 in
theorem fix_Div10 (a : Int) (h : fitB a = true) (w : World) (hg : GN w) (hl : GL w) : Calls Tryd.prog 96 #[.int .i64 a, .int .i64 0] w (fun e w' => e = .returned (.tuple #[.agg #[.int .i64 (whi 0), .int .u64 (wlo 0)], .int .i64 4]) ∧ Below w.heap.size w w') := by
  refine fix_Div10_plan a w _ (St.refl w) Ex.nil ?_
  intro r1
  refine ⟨(CallV.be fun W hS => wide_Of a (fitB_i64 h) W), (CallV.be fun W hS => wide_Up_40 a h W (hg.below hS.bl)), ?_⟩
  intro r2
  refine ⟨⟨rfl, rfl, trivial⟩, rfl, (CallV.be fun W hS => wide_Even_div0 a h W (hg.below hS.bl) (hl.below hS.bl)), ⟨rfl, rfl, trivial⟩, ⟨rfl, trivial⟩, ?_⟩
  exact fun W hS => ⟨rfl, hS.bl⟩
set_option maxRecDepth 1000000 in
set_option maxHeartbeats 8000000 in
theorem fix_bothDiv1_plan (a b : Int) (w : World) (R : Ending → World → Prop) (hG : St w w [] []) (hE : Ex w [])
    (h : CallV Tryd.prog w [] [] 39 #[.int .i64 a] (.bool (fitB a)) ∧ (((!(fitB a)) = true → (True) ∧ (LeafV R w [] [] (.tuple #[.int .i64 0, .int .i64 1]))) ∧ ((!(fitB a)) = false → CallV Tryd.prog w [] [] 39 #[.int .i64 b] (.bool (fitB b)) ∧ (((!(fitB b)) = true → (True) ∧ (LeafV R w [] [] (.tuple #[.int .i64 0, .int .i64 1]))) ∧ ((!(fitB b)) = false → CallV Tryd.prog w [] [] 96 #[.int .i64 a, .int .i64 b] (.tuple #[.agg #[.int .i64 (whi (divZ a b)), .int .u64 (wlo (divZ a b))], .int .i64 0]) ∧ (∀ r5 : Nat, (r5 = r5 ∧ (r5 = r5 ∧ (True))) ∧ r5 = r5 ∧ CallV Tryd.prog w [(r5, [.int .i64 (whi (divZ a b)), .int .u64 (wlo (divZ a b))])] [] 58 #[.agg #[.int .i64 (whi (divZ a b)), .int .u64 (wlo (divZ a b))]] (.tuple #[.int .i64 (fitI (divZ a b)), .int .i64 (errI (divZ a b))]) ∧ ((((errI (divZ a b)) != 0) = true → (True) ∧ (LeafV R w [(r5, [.int .i64 (whi (divZ a b)), .int .u64 (wlo (divZ a b))])] [] (.tuple #[.int .i64 0, .int .i64 3]))) ∧ (((errI (divZ a b)) != 0) = false → CallV Tryd.prog w [(r5, [.int .i64 (whi (divZ a b)), .int .u64 (wlo (divZ a b))])] [] 39 #[.int .i64 (fitI (divZ a b))] (.bool (fitB (fitI (divZ a b)))) ∧ (((!(fitB (fitI (divZ a b)))) = true → (True) ∧ (LeafV R w [(r5, [.int .i64 (whi (divZ a b)), .int .u64 (wlo (divZ a b))])] [] (.tuple #[.int .i64 0, .int .i64 3]))) ∧ ((!(fitB (fitI (divZ a b)))) = false → (True) ∧ (LeafV R w [(r5, [.int .i64 (whi (divZ a b)), .int .u64 (wlo (divZ a b))])] [] (.tuple #[.int .i64 (fitI (divZ a b)), .int .i64 0])))))))))))) : Calls Tryd.prog 95 #[.int .i64 a, .int .i64 b, .func (.func 96) #[] #[], .func (.func 58) #[] #[]] w R :=
  calls_of_plan (f := 95) (es := []) (c := Tryd.f95.body.getD .skip) (tmps := #[.int .i64 a, .int .i64 b, .func (.func 96) #[] #[], .func (.func 58) #[] #[], undef, undef, undef, undef, undef, undef, undef, undef, undef, undef, undef, undef, undef, undef, undef, undef, undef, undef, undef, undef, undef, undef, undef, undef, undef, undef, undef, undef, undef, undef, undef, undef, undef, undef, undef, undef, undef, undef, undef, undef, undef])
    (.s [.c, .c, .v, .v, .c, .c, .c, .c, .v, .call (.bool (fitB a)), .v, .v] (.split 16 (.s [.u, .u, .u, .v, .c, .c, .c, .c, .v, .v, .c] (.ret [])) (.s [.v, .call (.bool (fitB b)), .v, .v, .c] (.split 20 (.s [.c, .c, .c, .v, .v, .c] (.ret [])) (.s [.c, .c, .c, .c, .v, .v, .v, .call (.tuple #[.agg #[.int .i64 (whi (divZ a b)), .int .u64 (wlo (divZ a b))], .int .i64 0]), .v, .v, .v] (.new (fun r5 => .s [.put 0, .v, .c, .c, .c, .c, .v, .v, .c, .c, .c, .c, .c, .v, .own 0, .call (.tuple #[.int .i64 (fitI (divZ a b)), .int .i64 (errI (divZ a b))]), .v, .v, .v, .v, .v, .c, .c, .c, .c, .v, .v, .v] (.split 39 (.s [.u, .u, .u, .v, .c, .c, .c, .c, .v, .v, .c] (.ret [])) (.s [.v, .call (.bool (fitB (fitI (divZ a b)))), .v, .v, .c] (.split 43 (.s [.c, .c, .c, .v, .v, .c] (.ret [])) (.s [.c, .c, .c, .c, .v, .v, .v, .c] (.ret []))))))))))))
    (by kernel_rfl) hG hE Tryd.func95 (by kernel_rfl) (by kernel_rfl) (Eq.mpr (by kernel_rfl) h)
set_option maxRecDepth 1000000 in
set_option maxHeartbeats 8000000 in
theorem fix_bothDiv1 (a b : Int) (h0 : b ≠ 0) (w : World) (hg : GN w) (hl : GL w) : Calls Tryd.prog 95 #[.int .i64 a, .int .i64 b, .func (.func 96) #[] #[], .func (.func 58) #[] #[]] w (fun e w' => e = .returned (.tuple #[.int .i64 (divV a b (divZ a b)), .int .i64 (divE a b (divZ a b))]) ∧ Below w.heap.size w w') := by
  refine fix_bothDiv1_plan a b w _ (St.refl w) Ex.nil ?_
  refine ⟨(CallV.of fun W hS => fix_Fits a  W ), ?_⟩
  refine ⟨?_, ?_⟩
  · intro h10
    have h1 : (fitB a) = false := by simpa using h10
    refine ⟨trivial, ?_⟩
    have F := div_no1 (b := b) (z := (divZ a b)) h1
    exact fun W hS => ⟨by rw [F.1, F.2], hS.bl⟩
  · intro h20
    have h2 : (fitB a) = true := by simpa using h20
    refine ⟨(CallV.of fun W hS => fix_Fits b  W ), ?_⟩
    refine ⟨?_, ?_⟩
    · intro h30
      have h3 : (fitB b) = false := by simpa using h30
      refine ⟨trivial, ?_⟩
      have F := div_no2 (a := a) (z := (divZ a b)) h3
      exact fun W hS => ⟨by rw [F.1, F.2], hS.bl⟩
    · intro h40
      have h4 : (fitB b) = true := by simpa using h40
      refine ⟨(CallV.be fun W hS => fix_Div1 a b h2 (fitB_i64 h4) h0 W (hg.below hS.bl) (hl.below hS.bl)), ?_⟩
      intro r5
      refine ⟨⟨rfl, rfl, trivial⟩, rfl, (CallV.be fun W hS => wide_Int (divZ a b) W), ?_⟩
      refine ⟨?_, ?_⟩
      · intro h6
        have h6p : ¬ ((errI (divZ a b)) = 0) := by simpa using h6
        refine ⟨trivial, ?_⟩
        have F := div_yes (z := (divZ a b)) h2 h4 h0
        have G := to_a (z := (divZ a b)) h6p
        exact fun W hS => ⟨by rw [F.1, F.2, G.1, G.2], hS.bl⟩
      · intro h7
        have h7p : (errI (divZ a b)) = 0 := by simpa using h7
        refine ⟨(CallV.of fun W hS => fix_Fits (fitI (divZ a b))  W ), ?_⟩
        refine ⟨?_, ?_⟩
        · intro h80
          have h8 : (fitB (fitI (divZ a b))) = false := by simpa using h80
          refine ⟨trivial, ?_⟩
          have F := div_yes (z := (divZ a b)) h2 h4 h0
          have G := to_b (z := (divZ a b)) h7p h8
          exact fun W hS => ⟨by rw [F.1, F.2, G.1, G.2], hS.bl⟩
        · intro h90
          have h9 : (fitB (fitI (divZ a b))) = true := by simpa using h90
          refine ⟨trivial, ?_⟩
          have F := div_yes (z := (divZ a b)) h2 h4 h0
          have G := to_c (z := (divZ a b)) h7p h9
          exact fun W hS => ⟨by rw [F.1, F.2, G.1, G.2], hS.bl⟩
set_option maxRecDepth 1000000 in
set_option maxHeartbeats 8000000 in
theorem fix_bothDiv0_plan (a : Int) (w : World) (R : Ending → World → Prop) (hG : St w w [] []) (hE : Ex w [])
    (h : CallV Tryd.prog w [] [] 39 #[.int .i64 a] (.bool (fitB a)) ∧ (((!(fitB a)) = true → (True) ∧ (LeafV R w [] [] (.tuple #[.int .i64 0, .int .i64 1]))) ∧ ((!(fitB a)) = false → CallV Tryd.prog w [] [] 39 #[.int .i64 0] (.bool (fitB 0)) ∧ Value.bool (!(fitB 0)) = .bool false ∧ CallV Tryd.prog w [] [] 96 #[.int .i64 a, .int .i64 0] (.tuple #[.agg #[.int .i64 (whi 0), .int .u64 (wlo 0)], .int .i64 4]) ∧ (∀ r3 : Nat, (r3 = r3 ∧ (r3 = r3 ∧ (True))) ∧ (True) ∧ (LeafV R w [(r3, [.int .i64 (whi 0), .int .u64 (wlo 0)])] [] (.tuple #[.int .i64 0, .int .i64 4])))))) : Calls Tryd.prog 95 #[.int .i64 a, .int .i64 0, .func (.func 96) #[] #[], .func (.func 58) #[] #[]] w R :=
  calls_of_plan (f := 95) (es := []) (c := Tryd.f95.body.getD .skip) (tmps := #[.int .i64 a, .int .i64 0, .func (.func 96) #[] #[], .func (.func 58) #[] #[], undef, undef, undef, undef, undef, undef, undef, undef, undef, undef, undef, undef, undef, undef, undef, undef, undef, undef, undef, undef, undef, undef, undef, undef, undef, undef, undef, undef, undef, undef, undef, undef, undef, undef, undef, undef, undef, undef, undef, undef, undef])
    (.s [.c, .c, .v, .v, .c, .c, .c, .c, .v, .call (.bool (fitB a)), .v, .v] (.split 16 (.s [.u, .u, .u, .v, .c, .c, .c, .c, .v, .v, .c] (.ret [])) (.s [.v, .call (.bool (fitB 0)), .v, .v, .c, .setv 20 (.bool false), .c, .c, .c, .c, .v, .v, .v, .call (.tuple #[.agg #[.int .i64 (whi 0), .int .u64 (wlo 0)], .int .i64 4]), .v, .v, .v] (.new (fun r3 => .s [.put 0, .v, .c, .c, .c, .c, .v, .v, .c, .c, .c, .c, .v, .v, .v, .c] (.ret []))))))
    (by kernel_rfl) hG hE Tryd.func95 (by kernel_rfl) (by kernel_rfl) (Eq.mpr (by kernel_rfl) h)
set_option maxRecDepth 1000000 in
set_option maxHeartbeats 8000000 in
theorem fix_bothDiv0 (a : Int)  (w : World) (hg : GN w) (hl : GL w) : Calls Tryd.prog 95 #[.int .i64 a, .int .i64 0, .func (.func 96) #[] #[], .func (.func 58) #[] #[]] w (fun e w' => e = .returned (.tuple #[.int .i64 (divV a 0 (divZ a 0)), .int .i64 (divE a 0 (divZ a 0))]) ∧ Below w.heap.size w w') := by
  refine fix_bothDiv0_plan a w _ (St.refl w) Ex.nil ?_
  refine ⟨(CallV.of fun W hS => fix_Fits a  W ), ?_⟩
  refine ⟨?_, ?_⟩
  · intro h10
    have h1 : (fitB a) = false := by simpa using h10
    refine ⟨trivial, ?_⟩
    have F := div_no1 (b := 0) (z := divZ a 0) h1
    exact fun W hS => ⟨by rw [F.1, F.2], hS.bl⟩
  · intro h20
    have h2 : (fitB a) = true := by simpa using h20
    refine ⟨(CallV.of fun W hS => fix_Fits 0  W ), (by rw [((by decide) : (fitB 0) = true)]; rfl), (CallV.be fun W hS => fix_Div10 a h2 W (hg.below hS.bl) (hl.below hS.bl)), ?_⟩
    intro r3
    refine ⟨⟨rfl, rfl, trivial⟩, trivial, ?_⟩
    have F := div_zero (z := divZ a 0) h2
    exact fun W hS => ⟨by rw [F.1, F.2], hS.bl⟩

theorem fix_bothDiv (a b : Int) (w : World) (hg : GN w) (hl : GL w) : Calls Tryd.prog 95 #[.int .i64 a, .int .i64 b, .func (.func 96) #[] #[], .func (.func 58) #[] #[]] w fun e w' => e = .returned (.tuple #[.int .i64 (divV a b (divZ a b)), .int .i64 (divE a b (divZ a b))]) ∧ Below w.heap.size w w' := by
  by_cases h0 : b = 0
  · subst h0; exact fix_bothDiv0 a w hg hl
  · exact fix_bothDiv1 a b h0 w hg hl
set_option maxRecDepth 1000000 in
set_option maxHeartbeats 8000000 in
theorem fix_Div_plan (a b : Int) (w : World) (R : Ending → World → Prop) (hG : St w w [] []) (hE : Ex w [])
    (h : CallV Tryd.prog w [] [] 95 #[.int .i64 a, .int .i64 b, .func (.func 96) #[] #[], .func (.func 58) #[] #[]] (.tuple #[.int .i64 (divV a b (divZ a b)), .int .i64 (divE a b (divZ a b))]) ∧ (True) ∧ (LeafV R w [] [] (.tuple #[.int .i64 (divV a b (divZ a b)), .int .i64 (divE a b (divZ a b))]))) : Calls Tryd.prog 56 #[.int .i64 a, .int .i64 b] w R :=
  calls_of_plan (f := 56) (es := []) (c := Tryd.f56.body.getD .skip) (tmps := #[.int .i64 a, .int .i64 b, undef, undef, undef, undef, undef, undef, undef, undef, undef])
    (.s [.c, .c, .v, .v, .c, .c, .c, .v, .v, .call (.tuple #[.int .i64 (divV a b (divZ a b)), .int .i64 (divE a b (divZ a b))]), .v, .v, .v, .v, .c] (.ret []))
    (by kernel_rfl) hG hE Tryd.func56 (by kernel_rfl) (by kernel_rfl) (Eq.mpr (by kernel_rfl) h)
set_option maxRecDepth 1000000 in
set_option maxHeartbeats 8000000 in
theorem fix_Div (a b : Int)  (w : World) (hg : GN w) (hl : GL w) : Calls Tryd.prog 56 #[.int .i64 a, .int .i64 b] w (fun e w' => e = .returned (.tuple #[.int .i64 (divV a b (divZ a b)), .int .i64 (divE a b (divZ a b))]) ∧ Below w.heap.size w w') := by
  refine fix_Div_plan a b w _ (St.refl w) Ex.nil ?_
  refine ⟨(CallV.be fun W hS => fix_bothDiv a b W (hg.below hS.bl) (hl.below hS.bl)), trivial, ?_⟩
  exact fun W hS => ⟨rfl, hS.bl⟩

end Go.Proofs.YtpdggnocnaaanaaDoor
