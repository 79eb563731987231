/- Walks of the laws of layer 13 (conf): ConfThrusts, ConfChecks. -/
import Derived.Test.YtpgkchbgjciinaaKn
namespace Go.Proofs.Ytpgkchbgjciinaa
open Go.RowKit
set_option linter.unusedSimpArgs false
set_option linter.unusedVariables false
attribute [local go_sem] nlt2 nlt3 nlt4 nlt5 nlt6 nlt7 nlt8 nlt9 nlt10 nlt11 nlt12
set_option maxRecDepth 100000 in
set_option maxHeartbeats 8000000 in
theorem law_ConfThrusts (c : Nat → Int) (a b : Int) (hc : ∀ i, I64 (c i)) (w : World) : Calls Try.prog 5 #[.agg #[.int .i64 (c 0), .int .i64 (c 1), .int .i64 (c 2), .int .i64 (c 3), .int .i64 (c 4), .int .i64 (c 5), .int .i64 (c 6), .int .i64 (c 7), .int .i64 (c 8), .int .i64 (c 9), .int .i64 (c 10), .int .i64 (c 11), .int .i64 (c 12), .int .i64 (c 13), .int .i64 (c 14), .int .i64 (c 15), .int .i64 (c 16), .int .i64 (c 17), .int .i64 (c 18), .int .i64 (c 19), .int .i64 (c 20), .int .i64 (c 21), .int .i64 (c 22), .int .i64 (c 23), .int .i64 (c 24), .int .i64 (c 25), .int .i64 (c 26), .int .i64 (c 27), .int .i64 (c 28), .int .i64 (c 29), .int .i64 (c 30)], .int .i64 a, .int .i64 b] w fun e w' => e = .returned (.bool true) ∧ Below w.heap.size w w' := by
  obtain ⟨y, hy⟩ : ∃ y, ckC c = y := ⟨_, rfl⟩
  have HC : Asd (∀ W, Calls Try.prog 12 #[.agg #[.int .i64 (c 0), .int .i64 (c 1), .int .i64 (c 2), .int .i64 (c 3), .int .i64 (c 4), .int .i64 (c 5), .int .i64 (c 6), .int .i64 (c 7), .int .i64 (c 8), .int .i64 (c 9), .int .i64 (c 10), .int .i64 (c 11), .int .i64 (c 12), .int .i64 (c 13), .int .i64 (c 14), .int .i64 (c 15), .int .i64 (c 16), .int .i64 (c 17), .int .i64 (c 18), .int .i64 (c 19), .int .i64 (c 20), .int .i64 (c 21), .int .i64 (c 22), .int .i64 (c 23), .int .i64 (c 24), .int .i64 (c 25), .int .i64 (c 26), .int .i64 (c 27), .int .i64 (c 28), .int .i64 (c 29), .int .i64 (c 30)]] W fun e w' => e = .returned (.int .i64 y) ∧ Below W.heap.size W w') := ⟨fun W => by rw [← hy]; exact conf_Check c hc W⟩
  have S0 := Asd.mk (St.refl w)
  replace S0 := Asd.mk (St.lay S0.out [.int .i64 (c 0), .int .i64 (c 1), .int .i64 (c 2), .int .i64 (c 3), .int .i64 (c 4), .int .i64 (c 5), .int .i64 (c 6), .int .i64 (c 7), .int .i64 (c 8), .int .i64 (c 9), .int .i64 (c 10), .int .i64 (c 11), .int .i64 (c 12), .int .i64 (c 13), .int .i64 (c 14), .int .i64 (c 15), .int .i64 (c 16), .int .i64 (c 17), .int .i64 (c 18), .int .i64 (c 19), .int .i64 (c 20), .int .i64 (c 21), .int .i64 (c 22), .int .i64 (c 23), .int .i64 (c 24), .int .i64 (c 25), .int .i64 (c 26), .int .i64 (c 27), .int .i64 (c 28), .int .i64 (c 29), .int .i64 (c 30)] 25)
  obtain ⟨X, hX⟩ : ∃ X, thV c a = X := ⟨_, rfl⟩
  obtain ⟨Y, hY⟩ : ∃ Y, thV c b = Y := ⟨_, rfl⟩
  obtain ⟨E, hE⟩ : ∃ E, thE c a = E := ⟨_, rfl⟩
  obtain ⟨F, hF⟩ : ∃ F, thE c b = F := ⟨_, rfl⟩
  have HTa : Asd (∀ W, Calls Try.prog 10 #[.agg #[.int .i64 (c 0), .int .i64 (c 1), .int .i64 (c 2), .int .i64 (c 3), .int .i64 (c 4), .int .i64 (c 5), .int .i64 (c 6), .int .i64 (c 7), .int .i64 (c 8), .int .i64 (c 9), .int .i64 (c 10), .int .i64 (c 11), .int .i64 (c 12), .int .i64 (c 13), .int .i64 (c 14), .int .i64 (c 15), .int .i64 (c 16), .int .i64 (c 17), .int .i64 (c 18), .int .i64 (c 19), .int .i64 (c 20), .int .i64 (c 21), .int .i64 (c 22), .int .i64 (c 23), .int .i64 (c 24), .int .i64 (c 25), .int .i64 (c 26), .int .i64 (c 27), .int .i64 (c 28), .int .i64 (c 29), .int .i64 (c 30)], .int .i64 a] W fun e w' => e = .returned (.tuple #[.int .i64 X, .int .i64 E]) ∧ Below W.heap.size W w') := ⟨fun W => by
    have k := conf_Thrust c hc a W
    rw [hX, hE] at k
    exact k⟩
  have HTb : Asd (∀ W, Calls Try.prog 10 #[.agg #[.int .i64 (c 0), .int .i64 (c 1), .int .i64 (c 2), .int .i64 (c 3), .int .i64 (c 4), .int .i64 (c 5), .int .i64 (c 6), .int .i64 (c 7), .int .i64 (c 8), .int .i64 (c 9), .int .i64 (c 10), .int .i64 (c 11), .int .i64 (c 12), .int .i64 (c 13), .int .i64 (c 14), .int .i64 (c 15), .int .i64 (c 16), .int .i64 (c 17), .int .i64 (c 18), .int .i64 (c 19), .int .i64 (c 20), .int .i64 (c 21), .int .i64 (c 22), .int .i64 (c 23), .int .i64 (c 24), .int .i64 (c 25), .int .i64 (c 26), .int .i64 (c 27), .int .i64 (c 28), .int .i64 (c 29), .int .i64 (c 30)], .int .i64 b] W fun e w' => e = .returned (.tuple #[.int .i64 Y, .int .i64 F]) ∧ Below W.heap.size W w') := ⟨fun W => by
    have k := conf_Thrust c hc b W
    rw [hY, hF] at k
    exact k⟩
  by_cases h0 : y = 0
  · subst h0
    have fx := th_fit hc hy a
    have fy := th_fit hc hy b
    have fz := th_rest hc hy
    have fl : E = 0 → F = 0 → decide (a < b) = decide (X < Y) := by rw [← hE, ← hF, ← hX, ← hY]; exact fun h1 h2 => th_less hc hy h1 h2
    rw [hX, hE] at fx
    rw [hY, hF] at fy
    obtain ⟨fx1, fx2⟩ := fx
    obtain ⟨fy1, fy2⟩ := fy
    have HFx : Asd (∀ W, Calls Try.prog 14 #[.int .i64 X] W fun e w' => e = .returned (.bool true) ∧ W = w') := ⟨fun W => by rw [← fx1]; exact fix_Fits X W⟩
    have HFy : Asd (∀ W, Calls Try.prog 14 #[.int .i64 Y] W fun e w' => e = .returned (.bool true) ∧ W = w') := ⟨fun W => by rw [← fy1]; exact fix_Fits Y W⟩
    have HTz : Asd (∀ W, Calls Try.prog 10 #[.agg #[.int .i64 (c 0), .int .i64 (c 1), .int .i64 (c 2), .int .i64 (c 3), .int .i64 (c 4), .int .i64 (c 5), .int .i64 (c 6), .int .i64 (c 7), .int .i64 (c 8), .int .i64 (c 9), .int .i64 (c 10), .int .i64 (c 11), .int .i64 (c 12), .int .i64 (c 13), .int .i64 (c 14), .int .i64 (c 15), .int .i64 (c 16), .int .i64 (c 17), .int .i64 (c 18), .int .i64 (c 19), .int .i64 (c 20), .int .i64 (c 21), .int .i64 (c 22), .int .i64 (c 23), .int .i64 (c 24), .int .i64 (c 25), .int .i64 (c 26), .int .i64 (c 27), .int .i64 (c 28), .int .i64 (c 29), .int .i64 (c 30)], .int .i64 (c 25)] W fun e w' => e = .returned (.tuple #[.int .i64 0, .int .i64 0]) ∧ Below W.heap.size W w') := ⟨fun W => by
    have k := conf_Thrust c hc (c 25) W
    rw [fz.1, fz.2] at k
    exact k⟩
    clear hX hY hE hF hy hc fx1 fy1 fz
    rcases fx2 with rfl | rfl
    · rcases fy2 with rfl | rfl
      · have hl := fl rfl rfl
        clear fl
        obtain ⟨q, hq⟩ : ∃ q, decide (a < b) = q := ⟨_, rfl⟩
        have hq2 : decide (X < Y) = q := hl ▸ hq
        clear hl
        cases q
        all_goals (
        go_enter Try.func5, Try.ntmps5
        go_wp2_with (first | (go_at_call 9; replace S4 := S4; refine (law13_fixed _).mono ?_; rintro e w5 ⟨rfl, hb5⟩; apply St.step (w0 := w) (hb := hb5); (focus (with_reducible repeat (first | exact S4.out | apply St.lay | apply St.drew | apply St.drewN))); intro S5; clear hb5 S4) | (go_at_call 10; replace S3 := S3; refine (HTz.out _).mono ?_; rintro e w4 ⟨rfl, hb4⟩; apply St.step (w0 := w) (hb := hb4); (focus (with_reducible repeat (first | exact S3.out | apply St.lay | apply St.drew | apply St.drewN))); intro S4; clear hb4 S3) | (go_at_call 10; replace S2 := S2; refine (HTb.out _).mono ?_; rintro e w3 ⟨rfl, hb3⟩; apply St.step (w0 := w) (hb := hb3); (focus (with_reducible repeat (first | exact S2.out | apply St.lay | apply St.drew | apply St.drewN))); intro S3; clear hb3 S2; have e25 := St.cell S3.out 0 25 rfl rfl) | (go_at_call 10; replace S1 := S1; refine (HTa.out _).mono ?_; rintro e w2 ⟨rfl, hb2⟩; apply St.step (w0 := w) (hb := hb2); (focus (with_reducible repeat (first | exact S1.out | apply St.lay | apply St.drew | apply St.drewN))); intro S2; clear hb2 S1) | (go_at_call 12; replace S0 := S0; refine (HC.out _).mono ?_; rintro e w1 ⟨rfl, hb1⟩; apply St.step (w0 := w) (hb := hb1); (focus (with_reducible repeat (first | exact S0.out | apply St.lay | apply St.drew | apply St.drewN))); intro S1; clear hb1 S0) | (replace S3 := S3; refine wpList_whole 25 rfl rfl w.heap.size (by kernel_rfl) (St.at S3.out 0 rfl) (by kernel_rfl) (by kernel_rfl) ?_) | (replace S2 := S2; refine wpList_whole 25 rfl rfl w.heap.size (by kernel_rfl) (St.at S2.out 0 rfl) (by kernel_rfl) (by kernel_rfl) ?_) | (replace S1 := S1; refine wpList_whole 25 rfl rfl w.heap.size (by kernel_rfl) (St.at S1.out 0 rfl) (by kernel_rfl) (by kernel_rfl) ?_) | (replace S0 := S0; refine wpList_whole 25 rfl rfl w.heap.size (by kernel_rfl) (St.at S0.out 0 rfl) (by kernel_rfl) (by kernel_rfl) ?_) | (go_at_call 14; first | (with_reducible refine (HFx.out _).mono ?_; rintro e w' ⟨rfl, rfl⟩) | (with_reducible refine (HFy.out _).mono ?_; rintro e w' ⟨rfl, rfl⟩)))
        go_ret
        exact ⟨by first | rfl | simp [hq, hq2], S5.out.bl⟩)
      · go_enter Try.func5, Try.ntmps5
        go_wp2_with (first | (go_at_call 9; replace S4 := S4; refine (law13_fixed _).mono ?_; rintro e w5 ⟨rfl, hb5⟩; apply St.step (w0 := w) (hb := hb5); (focus (with_reducible repeat (first | exact S4.out | apply St.lay | apply St.drew | apply St.drewN))); intro S5; clear hb5 S4) | (go_at_call 10; replace S3 := S3; refine (HTz.out _).mono ?_; rintro e w4 ⟨rfl, hb4⟩; apply St.step (w0 := w) (hb := hb4); (focus (with_reducible repeat (first | exact S3.out | apply St.lay | apply St.drew | apply St.drewN))); intro S4; clear hb4 S3) | (go_at_call 10; replace S2 := S2; refine (HTb.out _).mono ?_; rintro e w3 ⟨rfl, hb3⟩; apply St.step (w0 := w) (hb := hb3); (focus (with_reducible repeat (first | exact S2.out | apply St.lay | apply St.drew | apply St.drewN))); intro S3; clear hb3 S2; have e25 := St.cell S3.out 0 25 rfl rfl) | (go_at_call 10; replace S1 := S1; refine (HTa.out _).mono ?_; rintro e w2 ⟨rfl, hb2⟩; apply St.step (w0 := w) (hb := hb2); (focus (with_reducible repeat (first | exact S1.out | apply St.lay | apply St.drew | apply St.drewN))); intro S2; clear hb2 S1) | (go_at_call 12; replace S0 := S0; refine (HC.out _).mono ?_; rintro e w1 ⟨rfl, hb1⟩; apply St.step (w0 := w) (hb := hb1); (focus (with_reducible repeat (first | exact S0.out | apply St.lay | apply St.drew | apply St.drewN))); intro S1; clear hb1 S0) | (replace S3 := S3; refine wpList_whole 25 rfl rfl w.heap.size (by kernel_rfl) (St.at S3.out 0 rfl) (by kernel_rfl) (by kernel_rfl) ?_) | (replace S2 := S2; refine wpList_whole 25 rfl rfl w.heap.size (by kernel_rfl) (St.at S2.out 0 rfl) (by kernel_rfl) (by kernel_rfl) ?_) | (replace S1 := S1; refine wpList_whole 25 rfl rfl w.heap.size (by kernel_rfl) (St.at S1.out 0 rfl) (by kernel_rfl) (by kernel_rfl) ?_) | (replace S0 := S0; refine wpList_whole 25 rfl rfl w.heap.size (by kernel_rfl) (St.at S0.out 0 rfl) (by kernel_rfl) (by kernel_rfl) ?_) | (go_at_call 14; first | (with_reducible refine (HFx.out _).mono ?_; rintro e w' ⟨rfl, rfl⟩) | (with_reducible refine (HFy.out _).mono ?_; rintro e w' ⟨rfl, rfl⟩)))
        go_ret
        exact ⟨by first | rfl | simp, S5.out.bl⟩
    · go_enter Try.func5, Try.ntmps5
      go_wp2_with (first | (go_at_call 9; replace S4 := S4; refine (law13_fixed _).mono ?_; rintro e w5 ⟨rfl, hb5⟩; apply St.step (w0 := w) (hb := hb5); (focus (with_reducible repeat (first | exact S4.out | apply St.lay | apply St.drew | apply St.drewN))); intro S5; clear hb5 S4) | (go_at_call 10; replace S3 := S3; refine (HTz.out _).mono ?_; rintro e w4 ⟨rfl, hb4⟩; apply St.step (w0 := w) (hb := hb4); (focus (with_reducible repeat (first | exact S3.out | apply St.lay | apply St.drew | apply St.drewN))); intro S4; clear hb4 S3) | (go_at_call 10; replace S2 := S2; refine (HTb.out _).mono ?_; rintro e w3 ⟨rfl, hb3⟩; apply St.step (w0 := w) (hb := hb3); (focus (with_reducible repeat (first | exact S2.out | apply St.lay | apply St.drew | apply St.drewN))); intro S3; clear hb3 S2; have e25 := St.cell S3.out 0 25 rfl rfl) | (go_at_call 10; replace S1 := S1; refine (HTa.out _).mono ?_; rintro e w2 ⟨rfl, hb2⟩; apply St.step (w0 := w) (hb := hb2); (focus (with_reducible repeat (first | exact S1.out | apply St.lay | apply St.drew | apply St.drewN))); intro S2; clear hb2 S1) | (go_at_call 12; replace S0 := S0; refine (HC.out _).mono ?_; rintro e w1 ⟨rfl, hb1⟩; apply St.step (w0 := w) (hb := hb1); (focus (with_reducible repeat (first | exact S0.out | apply St.lay | apply St.drew | apply St.drewN))); intro S1; clear hb1 S0) | (replace S3 := S3; refine wpList_whole 25 rfl rfl w.heap.size (by kernel_rfl) (St.at S3.out 0 rfl) (by kernel_rfl) (by kernel_rfl) ?_) | (replace S2 := S2; refine wpList_whole 25 rfl rfl w.heap.size (by kernel_rfl) (St.at S2.out 0 rfl) (by kernel_rfl) (by kernel_rfl) ?_) | (replace S1 := S1; refine wpList_whole 25 rfl rfl w.heap.size (by kernel_rfl) (St.at S1.out 0 rfl) (by kernel_rfl) (by kernel_rfl) ?_) | (replace S0 := S0; refine wpList_whole 25 rfl rfl w.heap.size (by kernel_rfl) (St.at S0.out 0 rfl) (by kernel_rfl) (by kernel_rfl) ?_) | (go_at_call 14; first | (with_reducible refine (HFx.out _).mono ?_; rintro e w' ⟨rfl, rfl⟩) | (with_reducible refine (HFy.out _).mono ?_; rintro e w' ⟨rfl, rfl⟩)))
      go_ret
      exact ⟨by first | rfl | simp, S5.out.bl⟩
  · have hE1 : E = 1 := by rw [← hE, (th_eq hc hy a).2.1, if_neg h0]
    subst hE1
    clear hX hY hE hF hy hc
    go_enter Try.func5, Try.ntmps5
    go_wp2_with (first | (go_at_call 9; replace S2 := S2; refine (law13_fixed _).mono ?_; rintro e w3 ⟨rfl, hb3⟩; apply St.step (w0 := w) (hb := hb3); (focus (with_reducible repeat (first | exact S2.out | apply St.lay | apply St.drew | apply St.drewN))); intro S3; clear hb3 S2) | (go_at_call 10; replace S1 := S1; refine (HTa.out _).mono ?_; rintro e w2 ⟨rfl, hb2⟩; apply St.step (w0 := w) (hb := hb2); (focus (with_reducible repeat (first | exact S1.out | apply St.lay | apply St.drew | apply St.drewN))); intro S2; clear hb2 S1) | (go_at_call 12; replace S0 := S0; refine (HC.out _).mono ?_; rintro e w1 ⟨rfl, hb1⟩; apply St.step (w0 := w) (hb := hb1); (focus (with_reducible repeat (first | exact S0.out | apply St.lay | apply St.drew | apply St.drewN))); intro S1; clear hb1 S0) | (replace S1 := S1; refine wpList_whole 25 rfl rfl w.heap.size (by kernel_rfl) (St.at S1.out 0 rfl) (by kernel_rfl) (by kernel_rfl) ?_) | (replace S0 := S0; refine wpList_whole 25 rfl rfl w.heap.size (by kernel_rfl) (St.at S0.out 0 rfl) (by kernel_rfl) (by kernel_rfl) ?_))
    go_ret
    exact ⟨by first | rfl | simp, S3.out.bl⟩
set_option maxRecDepth 100000 in
set_option maxHeartbeats 8000000 in
theorem law_ConfChecks (c : Nat → Int) (n : Int) (hc : ∀ i, I64 (c i)) (w : World) : Calls Try.prog 4 #[.agg #[.int .i64 (c 0), .int .i64 (c 1), .int .i64 (c 2), .int .i64 (c 3), .int .i64 (c 4), .int .i64 (c 5), .int .i64 (c 6), .int .i64 (c 7), .int .i64 (c 8), .int .i64 (c 9), .int .i64 (c 10), .int .i64 (c 11), .int .i64 (c 12), .int .i64 (c 13), .int .i64 (c 14), .int .i64 (c 15), .int .i64 (c 16), .int .i64 (c 17), .int .i64 (c 18), .int .i64 (c 19), .int .i64 (c 20), .int .i64 (c 21), .int .i64 (c 22), .int .i64 (c 23), .int .i64 (c 24), .int .i64 (c 25), .int .i64 (c 26), .int .i64 (c 27), .int .i64 (c 28), .int .i64 (c 29), .int .i64 (c 30)], .int .i64 n] w fun e w' => e = .returned (.bool true) ∧ Below w.heap.size w w' := by
  obtain ⟨y, hy⟩ : ∃ y, ckC c = y := ⟨_, rfl⟩
  obtain ⟨X, hX⟩ : ∃ X, thV c n = X := ⟨_, rfl⟩
  obtain ⟨E, hE⟩ : ∃ E, thE c n = E := ⟨_, rfl⟩
  have HC : Asd (∀ W, Calls Try.prog 12 #[.agg #[.int .i64 (c 0), .int .i64 (c 1), .int .i64 (c 2), .int .i64 (c 3), .int .i64 (c 4), .int .i64 (c 5), .int .i64 (c 6), .int .i64 (c 7), .int .i64 (c 8), .int .i64 (c 9), .int .i64 (c 10), .int .i64 (c 11), .int .i64 (c 12), .int .i64 (c 13), .int .i64 (c 14), .int .i64 (c 15), .int .i64 (c 16), .int .i64 (c 17), .int .i64 (c 18), .int .i64 (c 19), .int .i64 (c 20), .int .i64 (c 21), .int .i64 (c 22), .int .i64 (c 23), .int .i64 (c 24), .int .i64 (c 25), .int .i64 (c 26), .int .i64 (c 27), .int .i64 (c 28), .int .i64 (c 29), .int .i64 (c 30)]] W fun e w' => e = .returned (.int .i64 y) ∧ Below W.heap.size W w') := ⟨fun W => by rw [← hy]; exact conf_Check c hc W⟩
  have HD : Asd (∀ W, Calls Try.prog 13 #[.agg #[.int .i64 (c 0), .int .i64 (c 1), .int .i64 (c 2), .int .i64 (c 3), .int .i64 (c 4), .int .i64 (c 5), .int .i64 (c 6), .int .i64 (c 7), .int .i64 (c 8), .int .i64 (c 9), .int .i64 (c 10), .int .i64 (c 11), .int .i64 (c 12), .int .i64 (c 13), .int .i64 (c 14), .int .i64 (c 15), .int .i64 (c 16), .int .i64 (c 17), .int .i64 (c 18), .int .i64 (c 19), .int .i64 (c 20), .int .i64 (c 21), .int .i64 (c 22), .int .i64 (c 23), .int .i64 (c 24), .int .i64 (c 25), .int .i64 (c 26), .int .i64 (c 27), .int .i64 (c 28), .int .i64 (c 29), .int .i64 (c 30)]] W fun e w' => e = .returned (.int .i64 y) ∧ Below W.heap.size W w') := ⟨fun W => by rw [← hy]; exact ref13_Check c W⟩
  have S0 := Asd.mk (St.refl w)
  replace S0 := Asd.mk (St.lay S0.out [.int .i64 (c 0), .int .i64 (c 1), .int .i64 (c 2), .int .i64 (c 3), .int .i64 (c 4), .int .i64 (c 5), .int .i64 (c 6), .int .i64 (c 7), .int .i64 (c 8), .int .i64 (c 9), .int .i64 (c 10), .int .i64 (c 11), .int .i64 (c 12), .int .i64 (c 13), .int .i64 (c 14), .int .i64 (c 15), .int .i64 (c 16), .int .i64 (c 17), .int .i64 (c 18), .int .i64 (c 19), .int .i64 (c 20), .int .i64 (c 21), .int .i64 (c 22), .int .i64 (c 23), .int .i64 (c 24), .int .i64 (c 25), .int .i64 (c 26), .int .i64 (c 27), .int .i64 (c 28), .int .i64 (c 29), .int .i64 (c 30)] 25)
  have HT : Asd (∀ W, Calls Try.prog 10 #[.agg #[.int .i64 (c 0), .int .i64 (c 1), .int .i64 (c 2), .int .i64 (c 3), .int .i64 (c 4), .int .i64 (c 5), .int .i64 (c 6), .int .i64 (c 7), .int .i64 (c 8), .int .i64 (c 9), .int .i64 (c 10), .int .i64 (c 11), .int .i64 (c 12), .int .i64 (c 13), .int .i64 (c 14), .int .i64 (c 15), .int .i64 (c 16), .int .i64 (c 17), .int .i64 (c 18), .int .i64 (c 19), .int .i64 (c 20), .int .i64 (c 21), .int .i64 (c 22), .int .i64 (c 23), .int .i64 (c 24), .int .i64 (c 25), .int .i64 (c 26), .int .i64 (c 27), .int .i64 (c 28), .int .i64 (c 29), .int .i64 (c 30)], .int .i64 n] W fun e w' => e = .returned (.tuple #[.int .i64 X, .int .i64 E]) ∧ Below W.heap.size W w') := ⟨fun W => by
    have k := conf_Thrust c hc n W
    rw [hX, hE] at k
    exact k⟩
  have HR : Asd (∀ W, Calls Try.prog 11 #[.agg #[.int .i64 (c 0), .int .i64 (c 1), .int .i64 (c 2), .int .i64 (c 3), .int .i64 (c 4), .int .i64 (c 5), .int .i64 (c 6), .int .i64 (c 7), .int .i64 (c 8), .int .i64 (c 9), .int .i64 (c 10), .int .i64 (c 11), .int .i64 (c 12), .int .i64 (c 13), .int .i64 (c 14), .int .i64 (c 15), .int .i64 (c 16), .int .i64 (c 17), .int .i64 (c 18), .int .i64 (c 19), .int .i64 (c 20), .int .i64 (c 21), .int .i64 (c 22), .int .i64 (c 23), .int .i64 (c 24), .int .i64 (c 25), .int .i64 (c 26), .int .i64 (c 27), .int .i64 (c 28), .int .i64 (c 29), .int .i64 (c 30)], .int .i64 n] W fun e w' => e = .returned (.tuple #[.int .i64 X, .int .i64 E]) ∧ Below W.heap.size W w') := ⟨fun W => by
    have k := ref13_Thrust c hc n W
    rw [hX, hE] at k
    exact k⟩
  clear hX hE hy hc
  go_enter Try.func4, Try.ntmps4
  go_wp2_with (first | (go_at_call 11; replace S1 := S1; refine (HR.out _).mono ?_; rintro e w2 ⟨rfl, hb2⟩; apply St.step (w0 := w) (hb := hb2); (focus (with_reducible repeat (first | exact S1.out | apply St.lay | apply St.drew | apply St.drewN))); intro S2; clear hb2 S1) | (go_at_call 10; replace S0 := S0; refine (HT.out _).mono ?_; rintro e w1 ⟨rfl, hb1⟩; apply St.step (w0 := w) (hb := hb1); (focus (with_reducible repeat (first | exact S0.out | apply St.lay | apply St.drew | apply St.drewN))); intro S1; clear hb1 S0) | (replace S1 := S1; refine wpList_whole 25 rfl rfl w.heap.size (by kernel_rfl) (St.at S1.out 0 rfl) (by kernel_rfl) (by kernel_rfl) ?_) | (replace S0 := S0; refine wpList_whole 25 rfl rfl w.heap.size (by kernel_rfl) (St.at S0.out 0 rfl) (by kernel_rfl) (by kernel_rfl) ?_))
  refine wp_region_held_drew (S := (fun w' => w'.rangeAt w.heap.size 0 [.int .i64 (c 0), .int .i64 (c 1), .int .i64 (c 2), .int .i64 (c 3), .int .i64 (c 4), .int .i64 (c 5), .int .i64 (c 6), .int .i64 (c 7), .int .i64 (c 8), .int .i64 (c 9), .int .i64 (c 10), .int .i64 (c 11), .int .i64 (c 12), .int .i64 (c 13), .int .i64 (c 14), .int .i64 (c 15), .int .i64 (c 16), .int .i64 (c 17), .int .i64 (c 18), .int .i64 (c 19), .int .i64 (c 20), .int .i64 (c 21), .int .i64 (c 22), .int .i64 (c 23), .int .i64 (c 24), .int .i64 (c 25), .int .i64 (c 26), .int .i64 (c 27), .int .i64 (c 28), .int .i64 (c 29), .int .i64 (c 30)])) (by kernel_rfl) ?_ (fun hHeld => ?_)
  · (try dsimp only); first | exact hHeld | exact St.at S5.out 0 rfl | exact St.at S4.out 0 rfl | exact St.at S3.out 0 rfl | exact St.at S2.out 0 rfl
  refine wpAnyH_ready (rs := [0]) (by kernel_rfl) (by simp) ?_
  refine AllReadyH.cons (o := ?oi1) ?hi1 (fun K hK => ?_) AllReadyH.nil
  case hi1 => (simp only [List.getElem?_toArray, List.getElem?_cons_zero, List.getElem?_cons_succ]; rfl)
  go_simp
  (go_at_call 9; replace S2 := S2; refine (law13_fixed _).mono ?_; rintro e w3 ⟨rfl, hb3⟩; apply St.step (w0 := w) (hb := hb3); (focus (with_reducible repeat (first | exact S2.out | apply St.lay | apply St.drew | apply St.drewN))); intro S3; clear hb3 S2)
  (try dsimp only [])
  refine hK.out _ _ ?_ (fun hHeld => ?_)
  · (try dsimp only); first | exact hHeld | exact St.at S5.out 0 rfl | exact St.at S4.out 0 rfl | exact St.at S3.out 0 rfl | exact St.at S2.out 0 rfl
  clear hK K
  (try simp only [Act.put, List.setIfInBounds_toArray, List.set_cons_zero, List.set_cons_succ])
  refine wpAnyH_take (i := 1) (oi := ?oi2) (v := ?v2) ?hi2 ?hs2 ?hf2 ?hr2 ?hQ2 ?hy2 ?hS2 ?_
  case hi2 => (simp only [List.getElem?_toArray, List.getElem?_cons_zero, List.getElem?_cons_succ]; rfl)
  case hs2 => kernel_rfl
  case hf2 => kernel_rfl
  case hr2 => kernel_rfl
  case hQ2 => exact fun _ _ _ h => h
  case hS2 => assumption
  case hy2 => (refine Or.inl ⟨by kernel_rfl, ?_⟩; intro w hSw; (try dsimp only at hSw); go_simp; (try with_reducible rfl))
  (try simp only [Act.put, List.setIfInBounds_toArray, List.set_cons_zero, List.set_cons_succ])
  refine wpAnyH_take (i := 2) (oi := ?oi3) (v := .agg #[.int .i64 (c 0), .int .i64 (c 1), .int .i64 (c 2), .int .i64 (c 3), .int .i64 (c 4), .int .i64 (c 5), .int .i64 (c 6), .int .i64 (c 7), .int .i64 (c 8), .int .i64 (c 9), .int .i64 (c 10), .int .i64 (c 11), .int .i64 (c 12), .int .i64 (c 13), .int .i64 (c 14), .int .i64 (c 15), .int .i64 (c 16), .int .i64 (c 17), .int .i64 (c 18), .int .i64 (c 19), .int .i64 (c 20), .int .i64 (c 21), .int .i64 (c 22), .int .i64 (c 23), .int .i64 (c 24), .int .i64 (c 25), .int .i64 (c 26), .int .i64 (c 27), .int .i64 (c 28), .int .i64 (c 29), .int .i64 (c 30)]) ?hi3 ?hs3 ?hf3 ?hr3 ?hQ3 ?hy3 ?hS3 ?_
  case hi3 => (simp only [List.getElem?_toArray, List.getElem?_cons_zero, List.getElem?_cons_succ]; rfl)
  case hs3 => kernel_rfl
  case hf3 => kernel_rfl
  case hr3 => kernel_rfl
  case hQ3 => exact fun _ _ _ h => h
  case hS3 => assumption
  case hy3 => exact yieldsIf_whole 25 rfl (by kernel_rfl) w.heap.size rfl (fun _ h => h) (by kernel_rfl) (by kernel_rfl)
  (try simp only [Act.put, List.setIfInBounds_toArray, List.set_cons_zero, List.set_cons_succ])
  refine wpAnyH_take (i := 4) (oi := ?oi4) (v := .agg #[.int .i64 (c 0), .int .i64 (c 1), .int .i64 (c 2), .int .i64 (c 3), .int .i64 (c 4), .int .i64 (c 5), .int .i64 (c 6), .int .i64 (c 7), .int .i64 (c 8), .int .i64 (c 9), .int .i64 (c 10), .int .i64 (c 11), .int .i64 (c 12), .int .i64 (c 13), .int .i64 (c 14), .int .i64 (c 15), .int .i64 (c 16), .int .i64 (c 17), .int .i64 (c 18), .int .i64 (c 19), .int .i64 (c 20), .int .i64 (c 21), .int .i64 (c 22), .int .i64 (c 23), .int .i64 (c 24), .int .i64 (c 25), .int .i64 (c 26), .int .i64 (c 27), .int .i64 (c 28), .int .i64 (c 29), .int .i64 (c 30)]) ?hi4 ?hs4 ?hf4 ?hr4 ?hQ4 ?hy4 ?hS4 ?_
  case hi4 => (simp only [List.getElem?_toArray, List.getElem?_cons_zero, List.getElem?_cons_succ]; rfl)
  case hs4 => kernel_rfl
  case hf4 => kernel_rfl
  case hr4 => kernel_rfl
  case hQ4 => exact fun _ _ _ h => h
  case hS4 => assumption
  case hy4 => exact yieldsIf_whole 25 rfl (by kernel_rfl) w.heap.size rfl (fun _ h => h) (by kernel_rfl) (by kernel_rfl)
  (try simp only [Act.put, List.setIfInBounds_toArray, List.set_cons_zero, List.set_cons_succ])
  refine wpAnyH_ready (rs := [3]) (by kernel_rfl) (by simp) ?_
  refine AllReadyH.cons (o := ?oi5) ?hi5 (fun K hK => ?_) AllReadyH.nil
  case hi5 => (simp only [List.getElem?_toArray, List.getElem?_cons_zero, List.getElem?_cons_succ]; rfl)
  go_simp
  (go_at_call 12; replace S3 := S3; refine (HC.out _).mono ?_; rintro e w4 ⟨rfl, hb4⟩; apply St.step (w0 := w) (hb := hb4); (focus (with_reducible repeat (first | exact S3.out | apply St.lay | apply St.drew | apply St.drewN))); intro S4; clear hb4 S3)
  (try dsimp only [])
  refine hK.out _ _ ?_ (fun hHeld => ?_)
  · (try dsimp only); first | exact hHeld | exact St.at S5.out 0 rfl | exact St.at S4.out 0 rfl | exact St.at S3.out 0 rfl | exact St.at S2.out 0 rfl
  clear hK K
  (try simp only [Act.put, List.setIfInBounds_toArray, List.set_cons_zero, List.set_cons_succ])
  refine wpAnyH_ready (rs := [5]) (by kernel_rfl) (by simp) ?_
  refine AllReadyH.cons (o := ?oi6) ?hi6 (fun K hK => ?_) AllReadyH.nil
  case hi6 => (simp only [List.getElem?_toArray, List.getElem?_cons_zero, List.getElem?_cons_succ]; rfl)
  go_simp
  (go_at_call 13; replace S4 := S4; refine (HD.out _).mono ?_; rintro e w5 ⟨rfl, hb5⟩; apply St.step (w0 := w) (hb := hb5); (focus (with_reducible repeat (first | exact S4.out | apply St.lay | apply St.drew | apply St.drewN))); intro S5; clear hb5 S4)
  (try dsimp only [])
  refine hK.out _ _ ?_ (fun hHeld => ?_)
  · (try dsimp only); first | exact hHeld | exact St.at S5.out 0 rfl | exact St.at S4.out 0 rfl | exact St.at S3.out 0 rfl | exact St.at S2.out 0 rfl
  clear hK K
  (try simp only [Act.put, List.setIfInBounds_toArray, List.set_cons_zero, List.set_cons_succ])
  refine wpAnyH_take (i := 6) (oi := ?oi7) (v := ?v7) ?hi7 ?hs7 ?hf7 ?hr7 ?hQ7 ?hy7 ?hS7 ?_
  case hi7 => (simp only [List.getElem?_toArray, List.getElem?_cons_zero, List.getElem?_cons_succ]; rfl)
  case hs7 => kernel_rfl
  case hf7 => kernel_rfl
  case hr7 => kernel_rfl
  case hQ7 => exact fun _ _ _ h => h
  case hS7 => assumption
  case hy7 => (refine Or.inl ⟨by kernel_rfl, ?_⟩; intro w hSw; (try dsimp only at hSw); go_simp; (try with_reducible rfl))
  (try simp only [Act.put, List.setIfInBounds_toArray, List.set_cons_zero, List.set_cons_succ])
  refine wpAnyH_take (i := 7) (oi := ?oi8) (v := ?v8) ?hi8 ?hs8 ?hf8 ?hr8 ?hQ8 ?hy8 ?hS8 ?_
  case hi8 => (simp only [List.getElem?_toArray, List.getElem?_cons_zero, List.getElem?_cons_succ]; rfl)
  case hs8 => kernel_rfl
  case hf8 => kernel_rfl
  case hr8 => kernel_rfl
  case hQ8 => exact fun _ _ _ h => h
  case hS8 => assumption
  case hy8 => (refine Or.inl ⟨by kernel_rfl, ?_⟩; intro w hSw; (try dsimp only at hSw); go_simp; (try with_reducible rfl))
  (try simp only [Act.put, List.setIfInBounds_toArray, List.set_cons_zero, List.set_cons_succ])
  refine wpAnyH_take (i := 8) (oi := ?oi9) (v := ?v9) ?hi9 ?hs9 ?hf9 ?hr9 ?hQ9 ?hy9 ?hS9 ?_
  case hi9 => (simp only [List.getElem?_toArray, List.getElem?_cons_zero, List.getElem?_cons_succ]; rfl)
  case hs9 => kernel_rfl
  case hf9 => kernel_rfl
  case hr9 => kernel_rfl
  case hQ9 => exact fun _ _ _ h => h
  case hS9 => assumption
  case hy9 => (refine Or.inl ⟨by kernel_rfl, ?_⟩; intro w hSw; (try dsimp only at hSw); go_simp; (try with_reducible rfl))
  (try simp only [Act.put, List.setIfInBounds_toArray, List.set_cons_zero, List.set_cons_succ])
  refine wpAnyH_take (i := 9) (oi := ?oi10) (v := ?v10) ?hi10 ?hs10 ?hf10 ?hr10 ?hQ10 ?hy10 ?hS10 ?_
  case hi10 => (simp only [List.getElem?_toArray, List.getElem?_cons_zero, List.getElem?_cons_succ]; rfl)
  case hs10 => kernel_rfl
  case hf10 => kernel_rfl
  case hr10 => kernel_rfl
  case hQ10 => exact fun _ _ _ h => h
  case hS10 => assumption
  case hy10 => (refine Or.inl ⟨by kernel_rfl, ?_⟩; intro w hSw; (try dsimp only at hSw); go_simp; (try with_reducible rfl))
  (try simp only [Act.put, List.setIfInBounds_toArray, List.set_cons_zero, List.set_cons_succ])
  refine wpAnyH_take (i := 10) (oi := ?oi11) (v := ?v11) ?hi11 ?hs11 ?hf11 ?hr11 ?hQ11 ?hy11 ?hS11 ?_
  case hi11 => (simp only [List.getElem?_toArray, List.getElem?_cons_zero, List.getElem?_cons_succ]; rfl)
  case hs11 => kernel_rfl
  case hf11 => kernel_rfl
  case hr11 => kernel_rfl
  case hQ11 => exact fun _ _ _ h => h
  case hS11 => assumption
  case hy11 => (refine Or.inl ⟨by kernel_rfl, ?_⟩; intro w hSw; (try dsimp only at hSw); go_simp; (try with_reducible rfl))
  (try simp only [Act.put, List.setIfInBounds_toArray, List.set_cons_zero, List.set_cons_succ])
  refine wpAnyH_take (i := 11) (oi := ?oi12) (v := ?v12) ?hi12 ?hs12 ?hf12 ?hr12 ?hQ12 ?hy12 ?hS12 ?_
  case hi12 => (simp only [List.getElem?_toArray, List.getElem?_cons_zero, List.getElem?_cons_succ]; rfl)
  case hs12 => kernel_rfl
  case hf12 => kernel_rfl
  case hr12 => kernel_rfl
  case hQ12 => exact fun _ _ _ h => h
  case hS12 => assumption
  case hy12 => (refine Or.inl ⟨by kernel_rfl, ?_⟩; intro w hSw; (try dsimp only at hSw); go_simp; (try with_reducible rfl))
  (try simp only [Act.put, List.setIfInBounds_toArray, List.set_cons_zero, List.set_cons_succ])
  refine wpAnyH_take (i := 12) (oi := ?oi13) (v := ?v13) ?hi13 ?hs13 ?hf13 ?hr13 ?hQ13 ?hy13 ?hS13 ?_
  case hi13 => (simp only [List.getElem?_toArray, List.getElem?_cons_zero, List.getElem?_cons_succ]; rfl)
  case hs13 => kernel_rfl
  case hf13 => kernel_rfl
  case hr13 => kernel_rfl
  case hQ13 => exact fun _ _ _ h => h
  case hS13 => assumption
  case hy13 => (refine Or.inl ⟨by kernel_rfl, ?_⟩; intro w hSw; (try dsimp only at hSw); go_simp; (try with_reducible rfl))
  (try simp only [Act.put, List.setIfInBounds_toArray, List.set_cons_zero, List.set_cons_succ])
  refine wpAnyH_take (i := 13) (oi := ?oi14) (v := ?v14) ?hi14 ?hs14 ?hf14 ?hr14 ?hQ14 ?hy14 ?hS14 ?_
  case hi14 => (simp only [List.getElem?_toArray, List.getElem?_cons_zero, List.getElem?_cons_succ]; rfl)
  case hs14 => kernel_rfl
  case hf14 => kernel_rfl
  case hr14 => kernel_rfl
  case hQ14 => exact fun _ _ _ h => h
  case hS14 => assumption
  case hy14 => (refine Or.inl ⟨by kernel_rfl, ?_⟩; intro w hSw; (try dsimp only at hSw); go_simp; (try with_reducible rfl))
  (try simp only [Act.put, List.setIfInBounds_toArray, List.set_cons_zero, List.set_cons_succ])
  refine wpAnyH_take (i := 14) (oi := ?oi15) (v := ?v15) ?hi15 ?hs15 ?hf15 ?hr15 ?hQ15 ?hy15 ?hS15 ?_
  case hi15 => (simp only [List.getElem?_toArray, List.getElem?_cons_zero, List.getElem?_cons_succ]; rfl)
  case hs15 => kernel_rfl
  case hf15 => kernel_rfl
  case hr15 => kernel_rfl
  case hQ15 => exact fun _ _ _ h => h
  case hS15 => assumption
  case hy15 => (refine Or.inl ⟨by kernel_rfl, ?_⟩; intro w hSw; (try dsimp only at hSw); go_simp; (try with_reducible rfl))
  (try simp only [Act.put, List.setIfInBounds_toArray, List.set_cons_zero, List.set_cons_succ])
  refine wpAnyH_take (i := 15) (oi := ?oi16) (v := ?v16) ?hi16 ?hs16 ?hf16 ?hr16 ?hQ16 ?hy16 ?hS16 ?_
  case hi16 => (simp only [List.getElem?_toArray, List.getElem?_cons_zero, List.getElem?_cons_succ]; rfl)
  case hs16 => kernel_rfl
  case hf16 => kernel_rfl
  case hr16 => kernel_rfl
  case hQ16 => exact fun _ _ _ h => h
  case hS16 => assumption
  case hy16 => (refine Or.inl ⟨by kernel_rfl, ?_⟩; intro w hSw; (try dsimp only at hSw); go_simp; (try with_reducible rfl))
  (try simp only [Act.put, List.setIfInBounds_toArray, List.set_cons_zero, List.set_cons_succ])
  refine wpAnyH_take (i := 16) (oi := ?oi17) (v := ?v17) ?hi17 ?hs17 ?hf17 ?hr17 ?hQ17 ?hy17 ?hS17 ?_
  case hi17 => (simp only [List.getElem?_toArray, List.getElem?_cons_zero, List.getElem?_cons_succ]; rfl)
  case hs17 => kernel_rfl
  case hf17 => kernel_rfl
  case hr17 => kernel_rfl
  case hQ17 => exact fun _ _ _ h => h
  case hS17 => assumption
  case hy17 => (refine Or.inl ⟨by kernel_rfl, ?_⟩; intro w hSw; (try dsimp only at hSw); go_simp; (try with_reducible rfl))
  (try simp only [Act.put, List.setIfInBounds_toArray, List.set_cons_zero, List.set_cons_succ])
  refine wpAnyH_take (i := 17) (oi := ?oi18) (v := ?v18) ?hi18 ?hs18 ?hf18 ?hr18 ?hQ18 ?hy18 ?hS18 ?_
  case hi18 => (simp only [List.getElem?_toArray, List.getElem?_cons_zero, List.getElem?_cons_succ]; rfl)
  case hs18 => kernel_rfl
  case hf18 => kernel_rfl
  case hr18 => kernel_rfl
  case hQ18 => exact fun _ _ _ h => h
  case hS18 => assumption
  case hy18 => (refine Or.inl ⟨by kernel_rfl, ?_⟩; intro w hSw; (try dsimp only at hSw); go_simp; (try with_reducible rfl))
  (try simp only [Act.put, List.setIfInBounds_toArray, List.set_cons_zero, List.set_cons_succ])
  refine wpAnyH_take (i := 18) (oi := ?oi19) (v := ?v19) ?hi19 ?hs19 ?hf19 ?hr19 ?hQ19 ?hy19 ?hS19 ?_
  case hi19 => (simp only [List.getElem?_toArray, List.getElem?_cons_zero, List.getElem?_cons_succ]; rfl)
  case hs19 => kernel_rfl
  case hf19 => kernel_rfl
  case hr19 => kernel_rfl
  case hQ19 => exact fun _ _ _ h => h
  case hS19 => assumption
  case hy19 => (refine Or.inl ⟨by kernel_rfl, ?_⟩; intro w hSw; (try dsimp only at hSw); go_simp; (try with_reducible rfl))
  (try simp only [Act.put, List.setIfInBounds_toArray, List.set_cons_zero, List.set_cons_succ])
  refine wpAnyH_done (by kernel_rfl) ?_ _
  go_wp2
  go_ret
  exact ⟨by first | rfl | simp, S5.out.bl⟩
end Go.Proofs.Ytpgkchbgjciinaa
