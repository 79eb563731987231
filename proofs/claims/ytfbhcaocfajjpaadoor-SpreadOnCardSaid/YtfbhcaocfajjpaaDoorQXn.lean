/- Layer 8 (spread): the walks of the laws SpreadAdds and SpreadGrows, by plans. -/
import Derived.Test.YtfbhcaocfajjpaaDoorQXe
namespace Go.Proofs.YtfbhcaocfajjpaaDoor
open Go.RowKit
set_option linter.unusedSimpArgs false
set_option linter.unusedVariables false
set_option maxRecDepth 1000000 in
set_option maxHeartbeats 8000000 in
theorem law08_fixed_plan  (B : Base) (w : World) (R : Ending → World → Prop) (hG : Sx B w [] [] [] []) (hE : ExX B [])
    (h : CallVX Tryd.prog B [] [] [] [] 13 #[.agg #[.int .i64 1099511627776, .int .i64 1099511627776, .int .i64 1099511627776]] (.agg #[.int .i64 1099511627776, .int .i64 0, .int .i64 0, .int .i64 1099511627776, .int .i64 0, .int .i64 1099511627776]) ∧ CallVX Tryd.prog B [] [] [] [] 17 #[.agg #[.int .i64 1099511627776, .int .i64 0, .int .i64 0, .int .i64 1099511627776, .int .i64 0, .int .i64 1099511627776], .agg #[.int .i64 0, .int .i64 0, .int .i64 0]] (.tuple #[.agg #[.int .i64 (spV (v6 1099511627776 0 0 1099511627776 0 1099511627776) (v3 0 0 0) 0), .int .i64 (spV (v6 1099511627776 0 0 1099511627776 0 1099511627776) (v3 0 0 0) 1), .int .i64 (spV (v6 1099511627776 0 0 1099511627776 0 1099511627776) (v3 0 0 0) 2), .int .i64 (spV (v6 1099511627776 0 0 1099511627776 0 1099511627776) (v3 0 0 0) 3), .int .i64 (spV (v6 1099511627776 0 0 1099511627776 0 1099511627776) (v3 0 0 0) 4), .int .i64 (spV (v6 1099511627776 0 0 1099511627776 0 1099511627776) (v3 0 0 0) 5)], .int .i64 (spE (v6 1099511627776 0 0 1099511627776 0 1099511627776) (v3 0 0 0))]) ∧ (∀ r1 : Nat, let rs3 : Rws := [(0, 23, 6)]; ((r1 = r1 ∧ (r1 = r1 ∧ (r1 = r1 ∧ (r1 = r1 ∧ (r1 = r1 ∧ (r1 = r1 ∧ (True))))))) ∧ (True) ∧ (let bs4 : Blks := [(r1, [.int .i64 (spV (v6 1099511627776 0 0 1099511627776 0 1099511627776) (v3 0 0 0) 0), .int .i64 (spV (v6 1099511627776 0 0 1099511627776 0 1099511627776) (v3 0 0 0) 1), .int .i64 (spV (v6 1099511627776 0 0 1099511627776 0 1099511627776) (v3 0 0 0) 2), .int .i64 (spV (v6 1099511627776 0 0 1099511627776 0 1099511627776) (v3 0 0 0) 3), .int .i64 (spV (v6 1099511627776 0 0 1099511627776 0 1099511627776) (v3 0 0 0) 4), .int .i64 (spV (v6 1099511627776 0 0 1099511627776 0 1099511627776) (v3 0 0 0) 5)])]; (Value.bool ((spE (v6 1099511627776 0 0 1099511627776 0 1099511627776) (v3 0 0 0)) == 0) = .bool true ∧ r1 = r1 ∧ Value.bool ((spV (v6 1099511627776 0 0 1099511627776 0 1099511627776) (v3 0 0 0) 5) == 1099511627776) = .bool true ∧ r1 = r1 ∧ (True) ∧ (LeafX B R bs4 [] rs3 [] (.bool ((spV (v6 1099511627776 0 0 1099511627776 0 1099511627776) (v3 0 0 0) 4) == (-8589934592))))))))) : Calls Tryd.prog 23 #[] w R :=
  calls_of_planX (f := 23) (B := B) (es := []) (c := Tryd.f23.body.getD .skip) (tmps := #[undef, undef, undef, undef, undef, undef, undef, undef, undef, undef, undef, undef, undef, undef, undef, undef, undef, undef, undef, undef, undef, undef])
    (.s [.c, .c, .v, .c, .c, .c, .v, .call (.agg #[.int .i64 1099511627776, .int .i64 0, .int .i64 0, .int .i64 1099511627776, .int .i64 0, .int .i64 1099511627776]), .v, .call (.tuple #[.agg #[.int .i64 (spV (v6 1099511627776 0 0 1099511627776 0 1099511627776) (v3 0 0 0) 0), .int .i64 (spV (v6 1099511627776 0 0 1099511627776 0 1099511627776) (v3 0 0 0) 1), .int .i64 (spV (v6 1099511627776 0 0 1099511627776 0 1099511627776) (v3 0 0 0) 2), .int .i64 (spV (v6 1099511627776 0 0 1099511627776 0 1099511627776) (v3 0 0 0) 3), .int .i64 (spV (v6 1099511627776 0 0 1099511627776 0 1099511627776) (v3 0 0 0) 4), .int .i64 (spV (v6 1099511627776 0 0 1099511627776 0 1099511627776) (v3 0 0 0) 5)], .int .i64 (spE (v6 1099511627776 0 0 1099511627776 0 1099511627776) (v3 0 0 0))]), .v, .v, .v] (.new (fun r1 => .s [.put 0] (.s [.v, .c, .c, .c, .v, .v, .v, .setv 12 (.bool true), .v, .own 0, .v, .v, .v, .setv 17 (.bool true), .v, .own 0, .v, .v, .v, .c] (.ret [])))))
    (by kernel_rfl) hG hE Tryd.func23 (by kernel_rfl) (by kernel_rfl) (Eq.mpr (by kernel_rfl) h)
set_option maxRecDepth 1000000 in
set_option maxHeartbeats 8000000 in
theorem law08_fixed   (w : World)  (hg : GN w) (hp : GP w) (hgr : GR w) : Calls Tryd.prog 23 #[] w (fun e w' => e = .returned (.bool true) ∧ Below w.heap.size w w') := by
  refine law08_fixed_plan  (⟨w, fun _ => False⟩ : Base) w _ (Sx.refl w _) ExX.nil ?_
  refine ⟨(CallVX.be fun W hS => sym_Diag (v3 1099511627776 1099511627776 1099511627776) W), (CallVX.be fun W hS => spread_On (v6 1099511627776 0 0 1099511627776 0 1099511627776) (v3 0 0 0) (v6_all (p := I64) (by decide) (by decide) (by decide) (by decide) (by decide) (by decide)) (v3_all (p := I64) (by decide) (by decide) (by decide)) W (hg.below hS.bl) (hp.below hS.bl) (hgr.below hS.bl)), ?_⟩
  intro r1
  intro rs3
  refine ⟨⟨rfl, rfl, rfl, rfl, rfl, rfl, trivial⟩, trivial, ?_⟩
  intro bs4
  refine ⟨congrArg Value.bool (by kernel_rfl), rfl, congrArg Value.bool (by kernel_rfl), rfl, trivial, ?_⟩
  exact fun W hS => ⟨congrArg (fun q => Ending.returned (Value.bool q)) (by kernel_rfl), hS.bl⟩
end Go.Proofs.YtfbhcaocfajjpaaDoor
