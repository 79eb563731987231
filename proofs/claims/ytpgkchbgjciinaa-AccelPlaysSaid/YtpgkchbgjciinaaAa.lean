/- Walks of layer 15 (accel): a feed; what it makes of a count. -/
import Derived.Test.YtpgkchbgjciinaaKo
namespace Go.Proofs.Ytpgkchbgjciinaa
open Go.RowKit
set_option linter.unusedSimpArgs false
set_option linter.unusedVariables false
attribute [local go_sem] nlt2 nlt3 nlt4 nlt5 nlt6 nlt7 nlt8 nlt9 nlt10 nlt11 nlt12
/-- A part of a block of the state. -/
theorem St.atOff {w0 W : World} {bs : Blks} {gs : Bigs} (h : St w0 W bs gs) (i o : Nat) {b : Nat} {vs cs : List Value} (hi : bs[i]? = some (b, vs)) (hd : vs.drop o = cs) : W.rangeAt b o cs := by
  intro j v hv
  subst hd
  rw [List.getElem?_drop] at hv
  have := h.at i hi (o + j) v hv
  rwa [Nat.zero_add] at this
/-- The step: a whole struct or row is read, out of the middle of a block. -/
theorem wpList_part {P : Program} {ops : Array Oper} {rest : List Oper} {op : Oper} {a : Act} {w : World} {Q : Exit → Act → World → Prop} (ty : TypeId) {x : Operand} (ho : op.op = .load ty x) (hgd : op.guard = none)
    (b o : Nat) (hx : a.eval x = .pointer (some ⟨b, o, none⟩)) {cs : List Value} (hc : w.rangeAt b o cs) (hd : (P.underlying ty).map descRow = some true) (hi : (P.info? ty).map (·.size) = some cs.length)
    (h : wpList P ops Q rest (a.put op.dst (.agg cs.toArray)) w) : wpList P ops Q (op :: rest) a w := by
  cases hu : P.underlying ty with
  | none => rw [hu] at hd; cases hd
  | some d =>
    rw [hu] at hd
    have h1 : descRow d = true := Option.some.inj hd
    cases d with
    | struct f => exact wpList_load_mid hgd ty x ho b o hx cs _ hc hu rfl hi h
    | array n e => exact wpList_load_mid hgd ty x ho b o hx cs _ hc hu rfl hi h
    | _ => cases h1
/-- A feed's cells. -/
abbrev feedL (l r : Int) (c : Nat → Int) : List Value := [.int .i64 l, .int .i64 r, Value.int .i64 (c 0), Value.int .i64 (c 1), Value.int .i64 (c 2), Value.int .i64 (c 3), Value.int .i64 (c 4), Value.int .i64 (c 5), Value.int .i64 (c 6), Value.int .i64 (c 7), Value.int .i64 (c 8), Value.int .i64 (c 9), Value.int .i64 (c 10), Value.int .i64 (c 11), Value.int .i64 (c 12), Value.int .i64 (c 13), Value.int .i64 (c 14), Value.int .i64 (c 15), Value.int .i64 (c 16), Value.int .i64 (c 17), Value.int .i64 (c 18), Value.int .i64 (c 19), Value.int .i64 (c 20), Value.int .i64 (c 21), Value.int .i64 (c 22), Value.int .i64 (c 23), Value.int .i64 (c 24), Value.int .i64 (c 25), Value.int .i64 (c 26), Value.int .i64 (c 27), Value.int .i64 (c 28), Value.int .i64 (c 29), Value.int .i64 (c 30)]
set_option maxRecDepth 100000 in
set_option maxHeartbeats 4000000 in
theorem feed_In_ok (c : Nat → Int) (hc : ∀ i, I64 (c i)) (l r n : Int) (hr : -9223372036854775808 ≤ r + 1 ∧ r + 1 ≤ 9223372036854775807) (hE : thE c n = 0) (w0 w : World) (f : Nat) (bs : Blks) (S0 : Asd (St w0 w ((f, feedL l r c) :: bs) [])) :
    Calls Try.prog 17 #[.pointer (some ⟨f, 0, none⟩), .int .i64 n] w fun e w' => e = .returned (.tuple #[.int .i64 (thV c n), .bool false, .bool false]) ∧ St w0 w' ((f, feedL (thV c n) 0 c) :: bs) [] := by
  obtain ⟨X, hX⟩ : ∃ X, thV c n = X := ⟨_, rfl⟩
  obtain ⟨E, hE2⟩ : ∃ E, E = (0 : Int) := ⟨_, rfl⟩
  rw [← hE2] at hE
  have HT : Asd (∀ W, Calls Try.prog 10 #[.agg #[.int .i64 (c 0), .int .i64 (c 1), .int .i64 (c 2), .int .i64 (c 3), .int .i64 (c 4), .int .i64 (c 5), .int .i64 (c 6), .int .i64 (c 7), .int .i64 (c 8), .int .i64 (c 9), .int .i64 (c 10), .int .i64 (c 11), .int .i64 (c 12), .int .i64 (c 13), .int .i64 (c 14), .int .i64 (c 15), .int .i64 (c 16), .int .i64 (c 17), .int .i64 (c 18), .int .i64 (c 19), .int .i64 (c 20), .int .i64 (c 21), .int .i64 (c 22), .int .i64 (c 23), .int .i64 (c 24), .int .i64 (c 25), .int .i64 (c 26), .int .i64 (c 27), .int .i64 (c 28), .int .i64 (c 29), .int .i64 (c 30)], .int .i64 n] W fun e w' => e = .returned (.tuple #[.int .i64 X, .int .i64 E]) ∧ Below W.heap.size W w') := ⟨fun W => by
    have k := conf_Thrust c hc n W
    rw [hX, hE] at k
    exact k⟩
  rw [hX]
  subst hE2
  clear hX hE hc
  go_enter Try.func17, Try.ntmps17
  go_wp2_with (first | (replace S0 := S0; refine wpList_part 25 rfl rfl f 2 (by kernel_rfl) (cs := [.int .i64 (c 0), .int .i64 (c 1), .int .i64 (c 2), .int .i64 (c 3), .int .i64 (c 4), .int .i64 (c 5), .int .i64 (c 6), .int .i64 (c 7), .int .i64 (c 8), .int .i64 (c 9), .int .i64 (c 10), .int .i64 (c 11), .int .i64 (c 12), .int .i64 (c 13), .int .i64 (c 14), .int .i64 (c 15), .int .i64 (c 16), .int .i64 (c 17), .int .i64 (c 18), .int .i64 (c 19), .int .i64 (c 20), .int .i64 (c 21), .int .i64 (c 22), .int .i64 (c 23), .int .i64 (c 24), .int .i64 (c 25), .int .i64 (c 26), .int .i64 (c 27), .int .i64 (c 28), .int .i64 (c 29), .int .i64 (c 30)]) (St.atOff S0.out 0 2 rfl rfl) (by kernel_rfl) (by kernel_rfl) ?_) | (go_at_call 10; replace S0 := S0; refine (HT.out _).mono ?_; rintro e w1 ⟨rfl, hb1⟩; have S1 := Asd.mk (S0.out.call hb1); clear hb1 S0; have L1 := S1.out.facts.1; have F1 := S1.out.facts.2.2.1; simp only at L1 F1; have e0 := St.cell S1.out 0 0 rfl rfl; have e1 := St.cell S1.out 0 1 rfl rfl))
  refine bodyPost_ret (v := .tuple #[.int .i64 X, .bool false, .bool false]) (by simp (maxDischargeDepth := 9) [results, Try.results17, go_sem, *]) rfl ⟨rfl, ?_⟩ -- retv3
  exact St.set (St.set S1.out 0 0 rfl (by simp) (Or.inl rfl) _) 0 1 rfl (by simp) (Or.inl rfl) _
set_option maxRecDepth 100000 in
set_option maxHeartbeats 4000000 in
theorem feed_In_held (c : Nat → Int) (hc : ∀ i, I64 (c i)) (l r n : Int) (hr : -9223372036854775808 ≤ r + 1 ∧ r + 1 ≤ 9223372036854775807) (hE0 : thE c n ≠ 0) (w0 w : World) (f : Nat) (bs : Blks) (S0 : Asd (St w0 w ((f, feedL l r c) :: bs) [])) :
    Calls Try.prog 17 #[.pointer (some ⟨f, 0, none⟩), .int .i64 n] w fun e w' => e = .returned (.tuple #[.int .i64 l, .bool true, .bool (decide (c 27 < r + 1))]) ∧ St w0 w' ((f, feedL l (r + 1) c) :: bs) [] := by
  obtain ⟨X, hX⟩ : ∃ X, thV c n = X := ⟨_, rfl⟩
  obtain ⟨E, hE⟩ : ∃ E, thE c n = E := ⟨_, rfl⟩
  rw [hE] at hE0
  have HT : Asd (∀ W, Calls Try.prog 10 #[.agg #[.int .i64 (c 0), .int .i64 (c 1), .int .i64 (c 2), .int .i64 (c 3), .int .i64 (c 4), .int .i64 (c 5), .int .i64 (c 6), .int .i64 (c 7), .int .i64 (c 8), .int .i64 (c 9), .int .i64 (c 10), .int .i64 (c 11), .int .i64 (c 12), .int .i64 (c 13), .int .i64 (c 14), .int .i64 (c 15), .int .i64 (c 16), .int .i64 (c 17), .int .i64 (c 18), .int .i64 (c 19), .int .i64 (c 20), .int .i64 (c 21), .int .i64 (c 22), .int .i64 (c 23), .int .i64 (c 24), .int .i64 (c 25), .int .i64 (c 26), .int .i64 (c 27), .int .i64 (c 28), .int .i64 (c 29), .int .i64 (c 30)], .int .i64 n] W fun e w' => e = .returned (.tuple #[.int .i64 X, .int .i64 E]) ∧ Below W.heap.size W w') := ⟨fun W => by
    have k := conf_Thrust c hc n W
    rw [hX, hE] at k
    exact k⟩
  clear hX hE hc
  go_enter Try.func17, Try.ntmps17
  go_wp2_with (first | (replace S0 := S0; refine wpList_part 25 rfl rfl f 2 (by kernel_rfl) (cs := [.int .i64 (c 0), .int .i64 (c 1), .int .i64 (c 2), .int .i64 (c 3), .int .i64 (c 4), .int .i64 (c 5), .int .i64 (c 6), .int .i64 (c 7), .int .i64 (c 8), .int .i64 (c 9), .int .i64 (c 10), .int .i64 (c 11), .int .i64 (c 12), .int .i64 (c 13), .int .i64 (c 14), .int .i64 (c 15), .int .i64 (c 16), .int .i64 (c 17), .int .i64 (c 18), .int .i64 (c 19), .int .i64 (c 20), .int .i64 (c 21), .int .i64 (c 22), .int .i64 (c 23), .int .i64 (c 24), .int .i64 (c 25), .int .i64 (c 26), .int .i64 (c 27), .int .i64 (c 28), .int .i64 (c 29), .int .i64 (c 30)]) (St.atOff S0.out 0 2 rfl rfl) (by kernel_rfl) (by kernel_rfl) ?_) | (go_at_call 10; replace S0 := S0; refine (HT.out _).mono ?_; rintro e w1 ⟨rfl, hb1⟩; have S1 := Asd.mk (S0.out.call hb1); clear hb1 S0; have L1 := S1.out.facts.1; have F1 := S1.out.facts.2.2.1; simp only at L1 F1; have e0 := St.cell S1.out 0 0 rfl rfl; have e1 := St.cell S1.out 0 1 rfl rfl))
  have S2 : Asd (St w0 (w1.setCell ⟨f, 1, none⟩ (.int .i64 (r + 1))) ((f, feedL l (r + 1) c) :: bs) []) := ⟨St.set S1.out 0 1 rfl (by simp) (Or.inl rfl) _⟩
  have g0 := St.cell S2.out 0 0 rfl rfl
  have g1 := St.cell S2.out 0 1 rfl rfl
  have g29 := St.cell S2.out 0 29 rfl rfl
  go_quiet (fail)
  go_wp2
  refine bodyPost_ret (v := .tuple #[.int .i64 l, .bool true, .bool (decide (c 27 < r + 1))]) (by simp (maxDischargeDepth := 9) [results, Try.results17, go_sem, *]) rfl ⟨rfl, ?_⟩ -- retv3
  exact St.drewN S2.out _
end Go.Proofs.Ytpgkchbgjciinaa
