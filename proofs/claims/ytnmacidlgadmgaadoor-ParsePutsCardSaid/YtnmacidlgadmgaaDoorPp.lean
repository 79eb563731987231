/- Layer 14: law14.fixed and ParsePuts, walked. -/
import Derived.Test.YtnmacidlgadmgaaDoorPo
import Derived.Test.YtnmacidlgadmgaaDoorZi
namespace Go.Proofs.YtnmacidlgadmgaaDoor
open Go.RowKit
set_option linter.unusedSimpArgs false
set_option linter.unusedVariables false
theorem c_gate {c : Nat → Int} (h : c 20 = 9) (hc : ∀ i, I64 (c i)) (w : World) (hP : PK w) : Calls Tryd.prog 19 #[.string (bz (textL c 18)), .string ⟨#[10, 103, 97, 116, 101, 32, 57, 10]⟩] w fun e w' => e = .returned (.bool true) ∧ Below w.heap.size w w' := by
  obtain ⟨m, hm⟩ := hP.ml
  refine (Tryd.strings_Contains _ ⟨#[10, 103, 97, 116, 101, 32, 57, 10]⟩ m w (by rw [bz_size]; have := text_len hc 18; omega) hm).mono ?_
  rintro e w' ⟨rfl, rfl⟩
  exact ⟨by rw [fix_gate h], Below.refl _ _⟩
theorem c_end {c : Nat → Int} (hc : ∀ i, I64 (c i)) (w : World) : Calls Tryd.prog 20 #[.string (bz (textL c 18)), .string ⟨#[10, 101, 110, 100, 10]⟩] w fun e w' => e = .returned (.bool true) ∧ Below w.heap.size w w' := by
  refine (Tryd.strings_HasSuffix _ ⟨#[10, 101, 110, 100, 10]⟩ w (by rw [bz_size]; have := text_len hc 18; omega)).mono ?_
  rintro e w' ⟨rfl, rfl⟩
  exact ⟨by rw [fix_end], Below.refl _ _⟩
theorem str_same (a : ByteArray) : FactV Tryd.prog (execOp (KX.ev ⟨[], #[.string a, .string a], [], [], [], [], .ctl⟩) { dst := none, op := .binOp .eql 9 (.tmp 0) (.tmp 1) 9, type := 4, pos := "", after := #[], guard := none }) (.bool true) := by
  intro W
  simp [go_sem, KX.ev]
theorem eq_conf (f : Nat → Int) : EqV Tryd.prog 25 (cV f) (cV f) true := by
  intro W
  have h : eqB Tryd.prog 10000 25 (cV f) (cV f) = some (((f 0 == f 0) && ((f 1 == f 1) && ((f 2 == f 2) && true))) && (((f 3 == f 3) && ((f 4 == f 4) && ((f 5 == f 5) && true))) && ((f 6 == f 6) && ((f 7 == f 7) && (((f 8 == f 8) && ((f 9 == f 9) && ((f 10 == f 10) && true))) && (((f 11 == f 11) && ((f 12 == f 12) && ((f 13 == f 13) && true))) && (((f 14 == f 14) && ((f 15 == f 15) && ((f 16 == f 16) && true))) && (((f 17 == f 17) && ((f 18 == f 18) && ((f 19 == f 19) && true))) && ((f 20 == f 20) && (((f 21 == f 21) && ((f 22 == f 22) && ((f 23 == f 23) && true))) && ((f 24 == f 24) && ((f 25 == f 25) && ((f 26 == f 26) && ((f 27 == f 27) && ((f 28 == f 28) && ((f 29 == f 29) && ((f 30 == f 30) && true))))))))))))))))) := by kernel_rfl
  have := eqB_sound (P := Tryd.prog) 10000 _ _ _ _ W h
  rw [this]; simp
set_option maxRecDepth 1000000 in
set_option maxHeartbeats 8000000 in
theorem law14_fixed   (w : World)  (hP : PK w) : Calls Tryd.prog 7 #[] w (fun e w' => e = .returned (.bool true) ∧ Below w.heap.size w w') := by
  exact (let B : Base := (⟨w, fun _ => False⟩ : Base); let R : Ending → World → Prop := (fun e w' => e = .returned (.bool true) ∧ Below w.heap.size w w'); calls_of_planX (f := 7) (B := B) (R := R) (es := []) (c := Tryd.f7.body.getD .skip) (tmps := (tm0 [vN] 25))
    (.s [.c, .c, .v, .c, .c, .c, .call ((cV dF)), .call (.string (bz (textL dF 18))), .v, .c, .c, .c, .v, .call (.tuple #[(cV dF), vI 0]), .v, .v, .v] (.new (fun r1 => .s [.put 0] (.s [.v, .c, .c, .d [], .at 0 false, .v, .at 1 true, .call (vT), .at 2 false, .v, .at 3 false, .v, .at 4 true, .call (vT), .at 5 false, .v, .at 6 false, .v, .at 7 false, .v, .at 8 false, .v, .at 9 false, .v, .at 10 false, .v, .at 11 false, .own 0, .at 12 true, .call ((cV dF)), .at 13 false, .eq true, .at 14 false, .v, .at 15 false, .v, .c] (.ret [])))))
    (by kernel_rfl) (Sx.refl w _) ExX.nil Tryd.func7 (by kernel_rfl) (by kernel_rfl) (@Eq.mp _ _ (by kernel_rfl) (aI (cv B [] [] [] [] fun W hS => def_conf W) (aI (cv B [] [] [] [] fun W hS => parse_Put dF dF_I64 W (hP.below hS.bl)) (aI (cv B [] [] [] [] fun W hS => get_put dF_I64 rfl W (hP.below hS.bl)) (fun (r1 : Nat) => let rs3 : Rws := [(0, 25, 31)]; aI (show (r1 = r1 ∧ (r1 = r1 ∧ (r1 = r1 ∧ (r1 = r1 ∧ (r1 = r1 ∧ (r1 = r1 ∧ (r1 = r1 ∧ (r1 = r1 ∧ (r1 = r1 ∧ (r1 = r1 ∧ (r1 = r1 ∧ (r1 = r1 ∧ (r1 = r1 ∧ (r1 = r1 ∧ (r1 = r1 ∧ (r1 = r1 ∧ (r1 = r1 ∧ (r1 = r1 ∧ (r1 = r1 ∧ (r1 = r1 ∧ (r1 = r1 ∧ (r1 = r1 ∧ (r1 = r1 ∧ (r1 = r1 ∧ (r1 = r1 ∧ (r1 = r1 ∧ (r1 = r1 ∧ (r1 = r1 ∧ (r1 = r1 ∧ (r1 = r1 ∧ (r1 = r1 ∧ (True)))))))))))))))))))))))))))))))) from ⟨rfl, rfl, rfl, rfl, rfl, rfl, rfl, rfl, rfl, rfl, rfl, rfl, rfl, rfl, rfl, rfl, rfl, rfl, rfl, rfl, rfl, rfl, rfl, rfl, rfl, rfl, rfl, rfl, rfl, rfl, rfl, trivial⟩) (aI trivial (let bs4 : Blks := [(r1, (cW dF))]; aI (cv B bs4 [] rs3 [] fun W hS => c_gate (c := dF) rfl dF_I64 W (hP.below hS.bl)) (aI (cv B bs4 [] rs3 [] fun W hS => c_end (c := dF) dF_I64 W) (aI (Eq.refl r1) (aI (cv B bs4 [] rs3 [] fun W hS => def_conf W) (aI (show EqV Tryd.prog 25 ((cV dF)) ((cV dF)) true from (eq_conf dF)) (aI trivial ((show LeafX B R bs4 [] rs3 [] (vT) from by
        exact fun W hS => ⟨rfl, hS.bl⟩)))))))))))))))
set_option maxRecDepth 1000000 in
set_option maxHeartbeats 8000000 in
theorem law_Puts (c : Nat → Int) (hc : ∀ i, I64 (c i)) (w : World)  (hP : PK w) : Calls Tryd.prog 3 #[(cV c)] w (fun e w' => e = .returned (.bool true) ∧ Below w.heap.size w w') := by
  exact (let B : Base := (⟨w, fun _ => False⟩ : Base); let R : Ending → World → Prop := (fun e w' => e = .returned (.bool true) ∧ Below w.heap.size w w'); calls_of_planX (f := 3) (B := B) (R := R) (es := []) (c := Tryd.f3.body.getD .skip) (tmps := (tm0 [(cV c)] 28))
    (.s [.c, .c] (.new (fun r1 => .s [.v, .c, .c, .c, .own 0, .call (.string (bz (textL c 18))), .v, .c, .c, .c, .v, .call (.tuple #[(cV c), vI 0]), .v, .v, .v] (.new (fun r4 => .s [.put 1] (.s [.v, .c, .c, .c, .call (vT), .v, .v, .own 0, .call (.string (bz (textL c 18))), .fact (vT), .v, .v, .own 1, .own 0, .eq true, .v, .v, .v, .v, .v, .v, .c] (.ret [])))))))
    (by kernel_rfl) (Sx.refl w _) ExX.nil Tryd.func3 (by kernel_rfl) (by kernel_rfl) (@Eq.mp _ _ (by kernel_rfl) (fun (r1 : Nat) => let bs2 : Blks := [(r1, (cW c))]; let rs3 : Rws := [(0, 25, 31)]; aI (Eq.refl r1) (aI (cv B bs2 [] rs3 [] fun W hS => parse_Put c hc W (hP.below hS.bl)) (aI (cv B bs2 [] rs3 [] fun W hS => get_put hc rfl W (hP.below hS.bl)) (fun (r4 : Nat) => let rs6 : Rws := [(0, 25, 31), (1, 25, 31)]; aI (show (r4 = r4 ∧ (r4 = r4 ∧ (r4 = r4 ∧ (r4 = r4 ∧ (r4 = r4 ∧ (r4 = r4 ∧ (r4 = r4 ∧ (r4 = r4 ∧ (r4 = r4 ∧ (r4 = r4 ∧ (r4 = r4 ∧ (r4 = r4 ∧ (r4 = r4 ∧ (r4 = r4 ∧ (r4 = r4 ∧ (r4 = r4 ∧ (r4 = r4 ∧ (r4 = r4 ∧ (r4 = r4 ∧ (r4 = r4 ∧ (r4 = r4 ∧ (r4 = r4 ∧ (r4 = r4 ∧ (r4 = r4 ∧ (r4 = r4 ∧ (r4 = r4 ∧ (r4 = r4 ∧ (r4 = r4 ∧ (r4 = r4 ∧ (r4 = r4 ∧ (r4 = r4 ∧ (True)))))))))))))))))))))))))))))))) from ⟨rfl, rfl, rfl, rfl, rfl, rfl, rfl, rfl, rfl, rfl, rfl, rfl, rfl, rfl, rfl, rfl, rfl, rfl, rfl, rfl, rfl, rfl, rfl, rfl, rfl, rfl, rfl, rfl, rfl, rfl, rfl, trivial⟩) (aI trivial (let bs7 : Blks := [(r1, (cW c)), (r4, (cW c))]; aI (cv B bs7 [] rs6 [] fun W hS => law14_fixed W (hP.below hS.bl)) (aI (Eq.refl r1) (aI (cv B bs7 [] rs6 [] fun W hS => ref_Put c hc W) (aI (str_same (bz (textL c 18))) (aI (Eq.refl r4) (aI (Eq.refl r1) (aI (show EqV Tryd.prog 25 ((cV c)) ((cV c)) true from (eq_conf c)) (aI trivial ((show LeafX B R bs7 [] rs6 [] (vT) from by
        exact fun W hS => ⟨rfl, hS.bl⟩)))))))))))))))))

end Go.Proofs.YtnmacidlgadmgaaDoor
