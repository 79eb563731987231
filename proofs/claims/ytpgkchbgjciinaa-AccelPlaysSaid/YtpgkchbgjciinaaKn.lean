/- Walks of the laws of layer 13 (conf): ConfUsual, ConfThrusts, ConfChecks. -/
import Derived.Test.YtpgkchbgjciinaaKm
namespace Go.Proofs.Ytpgkchbgjciinaa
open Go.RowKit
set_option linter.unusedSimpArgs false
set_option linter.unusedVariables false
attribute [local go_sem] nlt2 nlt3 nlt4 nlt5 nlt6 nlt7 nlt8 nlt9 nlt10 nlt11 nlt12
attribute [local go_sem] eqVec
/-- A whole struct, in a region that draws its order. -/
theorem yieldsIf_whole {P : Program} {ops : Array Oper} {S : World → Prop} {op : Oper} {a : Act} (ty : TypeId) {x : Operand} (ho : op.op = .load ty x) (hw : Region.wanted op (yielded ops a.tmps) = true)
    (b : Nat) (hx : a.eval x = .pointer (some ⟨b, 0, none⟩)) {cs : List Value} (hS : ∀ w, S w → w.rangeAt b 0 cs) (hd : (P.underlying ty).map descRow = some true) (hi : (P.info? ty).map (·.size) = some cs.length) :
    YieldsIf P ops S op (.agg cs.toArray) a := by
  cases hu : P.underlying ty with
  | none => rw [hu] at hd; cases hd
  | some d =>
    rw [hu] at hd
    have h1 : descRow d = true := Option.some.inj hd
    cases d with
    | struct f => exact yieldsIf_load_mid hw ty x ho b 0 hx cs _ hS hu rfl hi
    | array n e => exact yieldsIf_load_mid hw ty x ho b 0 hx cs _ hS hu rfl hi
    | _ => cases h1
set_option maxRecDepth 100000 in
set_option maxHeartbeats 8000000 in
theorem law_ConfUsual (w : World) : Calls Try.prog 3 #[] w fun e w' => e = .returned (.bool true) ∧ Below w.heap.size w w' := by
  have S0 := Asd.mk (St.refl w)
  go_enter Try.func3, Try.ntmps3
  go_wp2_with (first | (go_at_call 9; replace S1 := S1; refine (law13_fixed _).mono ?_; rintro e w2 ⟨rfl, hb2⟩; apply St.step (w0 := w) (hb := hb2); (focus (with_reducible repeat (first | exact S1.out | apply St.lay | apply St.drew | apply St.drewN))); intro S2; clear hb2 S1; have e6 := St.cell S2.out 0 6 rfl rfl; have e7 := St.cell S2.out 0 7 rfl rfl; have e20 := St.cell S2.out 0 20 rfl rfl; have e24 := St.cell S2.out 0 24 rfl rfl; have e25 := St.cell S2.out 0 25 rfl rfl; have e26 := St.cell S2.out 0 26 rfl rfl; have e27 := St.cell S2.out 0 27 rfl rfl; have e28 := St.cell S2.out 0 28 rfl rfl; have e29 := St.cell S2.out 0 29 rfl rfl; have e30 := St.cell S2.out 0 30 rfl rfl) | (refine wpList_lay 25 rfl rfl rfl (by kernel_rfl) #[.int .i64 1024, .int .i64 65536, .int .i64 256, .int .i64 16384, .int .i64 4194304, .int .i64 4096, .int .i64 274877906944, .int .i64 4398046511104, .int .i64 4398046511104, .int .i64 1099511627776, .int .i64 68719476736, .int .i64 256, .int .i64 256, .int .i64 256, .int .i64 1125899906842624, .int .i64 281474976710656, .int .i64 17592186044416, .int .i64 18014398509481984, .int .i64 562949953421312, .int .i64 8796093022208, .int .i64 9, .int .i64 34359738368, .int .i64 17179869184, .int .i64 (-1073741824), .int .i64 536870912, .int .i64 2048, .int .i64 32768, .int .i64 32, .int .i64 64, .int .i64 1280, .int .i64 240] rfl (by kernel_rfl) rfl (by kernel_rfl) ?_) | (go_at_call 8; replace S0 := S0; refine (conf_Default _).mono ?_; rintro e w1 ⟨rfl, hb1⟩; apply St.step (w0 := w) (hb := hb1); (focus (with_reducible repeat (first | exact S0.out | apply St.lay | apply St.drew | apply St.drewN))); intro S1; clear hb1 S0))
  go_ret
  exact ⟨rfl, S2.out.bl⟩

theorem th_fit {c : Nat → Int} (hc : ∀ i, I64 (c i)) (h : ckC c = 0) (n : Int) : fitB (thV c n) = true ∧ (thE c n = 0 ∨ thE c n = 2) := by
  obtain ⟨hV, hE, hB⟩ := th_eq hc h n
  obtain ⟨b1, b2, b3, b4⟩ := hB rfl
  cases hq : wiB n (1 - c 26) (c 26 - 1)
  · rw [hV, hE, hq]; exact ⟨rfl, Or.inr rfl⟩
  · obtain ⟨k1, k2⟩ := wiB_true.1 hq
    obtain ⟨t1, t2, _⟩ := thr_bd k1 k2 b3.1 b3.2 b2 b4.1 b4.2
    rw [hV, hE, hq]
    exact ⟨fitB_true.2 ⟨t1, t2⟩, Or.inl rfl⟩
theorem th_rest {c : Nat → Int} (hc : ∀ i, I64 (c i)) (h : ckC c = 0) : thV c (c 25) = 0 ∧ thE c (c 25) = 0 := by
  obtain ⟨hV, hE, hB⟩ := th_eq hc h (c 25)
  obtain ⟨b1, b2, b3, b4⟩ := hB rfl
  rw [hV, hE, show wiB (c 25) (1 - c 26) (c 26 - 1) = true from wiB_true.2 ⟨by omega, by omega⟩]
  simp
theorem th_less {c : Nat → Int} (hc : ∀ i, I64 (c i)) (h : ckC c = 0) {a b : Int} (ha : thE c a = 0) (hb : thE c b = 0) : decide (a < b) = decide (thV c a < thV c b) := by
  obtain ⟨hV, hE, hB⟩ := th_eq hc h a
  obtain ⟨hV2, hE2, _⟩ := th_eq hc h b
  obtain ⟨b1, b2, b3, b4⟩ := hB rfl
  have q1 : wiB a (1 - c 26) (c 26 - 1) = true := by cases hq : wiB a (1 - c 26) (c 26 - 1); rw [hE, hq] at ha; exact absurd ha (by decide); rfl
  have q2 : wiB b (1 - c 26) (c 26 - 1) = true := by cases hq : wiB b (1 - c 26) (c 26 - 1); rw [hE2, hq] at hb; exact absurd hb (by decide); rfl
  rw [hV, hV2, q1, q2]
  simp only [if_true]
  rw [Bool.eq_iff_iff, decide_eq_true_iff, decide_eq_true_iff]
  constructor
  · intro hl; exact Int.mul_lt_mul_of_pos_right (by omega) (by omega)
  · intro hl
    rcases Int.lt_or_le a b with k | k
    · exact k
    · have := Int.mul_le_mul_of_nonneg_right (show b - c 25 ≤ a - c 25 by omega) (show 0 ≤ c 24 by omega); omega
end Go.Proofs.Ytpgkchbgjciinaa
