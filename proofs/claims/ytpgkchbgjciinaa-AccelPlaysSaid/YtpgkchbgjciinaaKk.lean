/- The document's answer of layer 13 (conf): the rules of rows. -/
import Derived.Test.YtpgkchbgjciinaaKj
import Derived.Test.YtpgkchbgjciinaaKi
import Derived.Deep.RegionWith
import Derived.Deep.RegionHeld3
namespace Go.Proofs.Ytpgkchbgjciinaa
open Go.RowKit
set_option linter.unusedSimpArgs false
set_option linter.unusedVariables false
attribute [local go_sem] nlt2 nlt3 nlt4 nlt5 nlt6 nlt7 nlt8 nlt9 nlt10 nlt11 nlt12
def upto (p : Nat → Bool) (n : Nat) : Prop := ∀ j, j < n → p j = true
theorem up_0 (p : Nat → Bool) : upto p 0 := fun j h => absurd h (by omega)
theorem up_s {p : Nat → Bool} {n : Nat} (h : upto p n) (k : p n = true) : upto p (n + 1) := fun j hj => by
  by_cases e : j = n
  · rw [e]; exact k
  · exact h j (by omega)
theorem up_3 {p : Nat → Bool} (h : upto p 3) : (p 0 && (p 1 && p 2)) = true := by rw [h 0 (by omega), h 1 (by omega), h 2 (by omega)]; rfl
theorem not_3 {p : Nat → Bool} {k : Nat} (hk : k < 3) (h : p k = false) : (p 0 && (p 1 && p 2)) = false := by
  match k, hk, h with
  | 0, _, h => rw [h]; rfl
  | 1, _, h => rw [h]; simp
  | 2, _, h => rw [h]; simp
theorem first_step {c : Nat → Int} {n k : Nat} {r : Int} (h : firstC c (n + 1) k = r) (hr : ruleB c k = true) : firstC c n (k + 1) = r := by rw [← h]; simp [firstC, hr]
theorem first_stop {c : Nat → Int} {n k : Nat} {r : Int} (h : firstC c (n + 1) k = r) (hr : ruleB c k = false) : (k : Int) = r := by rw [← h]; simp [firstC, hr]
theorem St.cell {w0 W : World} {bs : Blks} {gs : Bigs} (h : St w0 W bs gs) (k i : Nat) {b : Nat} {vs : List Value} {v : Value} (hk : bs[k]? = some (b, vs)) (hv : vs[i]? = some v) : W.cell? ⟨b, i, none⟩ = some v := by
  have := h.at k hk i v hv
  rwa [Nat.zero_add] at this
theorem rule7_eq (c : Nat → Int) : ruleB c 7 = (wiB (c 17) 18014398509481984 72057594037927936 && (wiB (c 18) 0 72057594037927936 && wiB (c 19) 0 72057594037927936)) := by
  rw [Bool.eq_iff_iff]; simp [ruleB, wiB]; omega
set_option maxRecDepth 100000 in
set_option maxHeartbeats 8000000 in
theorem ref13_rows (c : Nat → Int) (w : World) : Calls Try.prog 26 #[.agg #[.int .i64 (c 0), .int .i64 (c 1), .int .i64 (c 2), .int .i64 (c 3), .int .i64 (c 4), .int .i64 (c 5), .int .i64 (c 6), .int .i64 (c 7), .int .i64 (c 8), .int .i64 (c 9), .int .i64 (c 10), .int .i64 (c 11), .int .i64 (c 12), .int .i64 (c 13), .int .i64 (c 14), .int .i64 (c 15), .int .i64 (c 16), .int .i64 (c 17), .int .i64 (c 18), .int .i64 (c 19), .int .i64 (c 20), .int .i64 (c 21), .int .i64 (c 22), .int .i64 (c 23), .int .i64 (c 24), .int .i64 (c 25), .int .i64 (c 26), .int .i64 (c 27), .int .i64 (c 28), .int .i64 (c 29), .int .i64 (c 30)]] w fun e w' => e = .returned (.int .i64 (firstC c 7 1)) ∧ Below w.heap.size w w' := by
  obtain ⟨z, hz⟩ : ∃ z, firstC c 7 1 = z := ⟨_, rfl⟩
  have hf := hz
  have S0 := Asd.mk (St.refl w)
  go_enter Try.func26, Try.ntmps26
  rw [hz]
  clear hz
  go_wp2
  replace S0 := Asd.mk (St.lay S0.out [.int .i64 (c 0), .int .i64 (c 1), .int .i64 (c 2), .int .i64 (c 3), .int .i64 (c 4), .int .i64 (c 5), .int .i64 (c 6), .int .i64 (c 7), .int .i64 (c 8), .int .i64 (c 9), .int .i64 (c 10), .int .i64 (c 11), .int .i64 (c 12), .int .i64 (c 13), .int .i64 (c 14), .int .i64 (c 15), .int .i64 (c 16), .int .i64 (c 17), .int .i64 (c 18), .int .i64 (c 19), .int .i64 (c 20), .int .i64 (c 21), .int .i64 (c 22), .int .i64 (c 23), .int .i64 (c 24), .int .i64 (c 25), .int .i64 (c 26), .int .i64 (c 27), .int .i64 (c 28), .int .i64 (c 29), .int .i64 (c 30)] 25)
  go_loopw [3] (fun v wr => ∃ k : Int, (k = 0 ∨ k = 1 ∨ k = 2 ∨ k = 3) ∧ v = .int .i64 k ∧ upto (fun j => wiB (c j) 0 1125899906842624) k.toNat ∧ Asd (St w wr [(w.heap.size, [.int .i64 (c 0), .int .i64 (c 1), .int .i64 (c 2), .int .i64 (c 3), .int .i64 (c 4), .int .i64 (c 5), .int .i64 (c 6), .int .i64 (c 7), .int .i64 (c 8), .int .i64 (c 9), .int .i64 (c 10), .int .i64 (c 11), .int .i64 (c 12), .int .i64 (c 13), .int .i64 (c 14), .int .i64 (c 15), .int .i64 (c 16), .int .i64 (c 17), .int .i64 (c 18), .int .i64 (c 19), .int .i64 (c 20), .int .i64 (c 21), .int .i64 (c 22), .int .i64 (c 23), .int .i64 (c 24), .int .i64 (c 25), .int .i64 (c 26), .int .i64 (c 27), .int .i64 (c 28), .int .i64 (c 29), .int .i64 (c 30)])] [])) (fun v _ => 3 - (intOf v).toNat)
  case atStart => exact ⟨0, by decide, rfl, up_0 _, S0⟩
  case round =>
    obtain ⟨k, hk, rfl, hu, S1⟩ := hrel
    clear S0
    rcases hk with rfl | rfl | rfl | rfl
    · obtain ⟨b, hb⟩ : ∃ b, wiB (c 0) 0 1125899906842624 = b := ⟨_, rfl⟩
      have L1 := S1.out.facts.1; simp only at L1; have e1_0 := St.cell S1.out 0 0 rfl rfl
      cases b
      all_goals (go_wp2; go_quiet (first | (go_at_call 24; exact quiet_left' (ref13_in _ _ _ _)) | (go_at_call 27; with_reducible exact quiet_left' (Big_17 _)) | (go_at_call 27; with_reducible exact quiet_left' (Big_38 _)) | (go_at_call 27; with_reducible exact quiet_left' (Big_40 _)) | (go_at_call 27; with_reducible exact quiet_left' (Big_42 _)) | (go_at_call 27; with_reducible exact quiet_left' (Big_50 _)) | (go_at_call 27; with_reducible exact quiet_left' (Big_54 _)) | (go_at_call 27; with_reducible exact quiet_left' (Big_56 _))); go_wp2)
      · have hr : ruleB c 1 = false := not_3 (p := (fun j => wiB (c j) 0 1125899906842624)) (k := 0) (by decide) hb
        go_ret
        exact ⟨by rw [← first_stop hf hr]; rfl, by repeat (first | exact S1.out.bl | refine bl_drewN ?_ _ | refine bl_drew ?_)⟩
      · go_roundw
        case rel => exact ⟨1, by decide, rfl, up_s (n := 0) hu hb, ⟨St.drewN S1.out _⟩⟩
        case measure => simp [intOf]
    · obtain ⟨b, hb⟩ : ∃ b, wiB (c 1) 0 1125899906842624 = b := ⟨_, rfl⟩
      have L1 := S1.out.facts.1; simp only at L1; have e1_1 := St.cell S1.out 0 1 rfl rfl
      cases b
      all_goals (go_wp2; go_quiet (first | (go_at_call 24; exact quiet_left' (ref13_in _ _ _ _)) | (go_at_call 27; with_reducible exact quiet_left' (Big_17 _)) | (go_at_call 27; with_reducible exact quiet_left' (Big_38 _)) | (go_at_call 27; with_reducible exact quiet_left' (Big_40 _)) | (go_at_call 27; with_reducible exact quiet_left' (Big_42 _)) | (go_at_call 27; with_reducible exact quiet_left' (Big_50 _)) | (go_at_call 27; with_reducible exact quiet_left' (Big_54 _)) | (go_at_call 27; with_reducible exact quiet_left' (Big_56 _))); go_wp2)
      · have hr : ruleB c 1 = false := not_3 (p := (fun j => wiB (c j) 0 1125899906842624)) (k := 1) (by decide) hb
        go_ret
        exact ⟨by rw [← first_stop hf hr]; rfl, by repeat (first | exact S1.out.bl | refine bl_drewN ?_ _ | refine bl_drew ?_)⟩
      · go_roundw
        case rel => exact ⟨2, by decide, rfl, up_s (n := 1) hu hb, ⟨St.drewN S1.out _⟩⟩
        case measure => simp [intOf]
    · obtain ⟨b, hb⟩ : ∃ b, wiB (c 2) 0 1125899906842624 = b := ⟨_, rfl⟩
      have L1 := S1.out.facts.1; simp only at L1; have e1_2 := St.cell S1.out 0 2 rfl rfl
      cases b
      all_goals (go_wp2; go_quiet (first | (go_at_call 24; exact quiet_left' (ref13_in _ _ _ _)) | (go_at_call 27; with_reducible exact quiet_left' (Big_17 _)) | (go_at_call 27; with_reducible exact quiet_left' (Big_38 _)) | (go_at_call 27; with_reducible exact quiet_left' (Big_40 _)) | (go_at_call 27; with_reducible exact quiet_left' (Big_42 _)) | (go_at_call 27; with_reducible exact quiet_left' (Big_50 _)) | (go_at_call 27; with_reducible exact quiet_left' (Big_54 _)) | (go_at_call 27; with_reducible exact quiet_left' (Big_56 _))); go_wp2)
      · have hr : ruleB c 1 = false := not_3 (p := (fun j => wiB (c j) 0 1125899906842624)) (k := 2) (by decide) hb
        go_ret
        exact ⟨by rw [← first_stop hf hr]; rfl, by repeat (first | exact S1.out.bl | refine bl_drewN ?_ _ | refine bl_drew ?_)⟩
      · go_roundw
        case rel => exact ⟨3, by decide, rfl, up_s (n := 2) hu hb, ⟨St.drewN S1.out _⟩⟩
        case measure => simp [intOf]
    have hr : ruleB c 1 = true := up_3 hu
    replace hf := first_step hf hr
    clear hr hu
    have L1 := S1.out.facts.1; simp only at L1
    go_wp2
    go_loopw [4] (fun v wr => ∃ k : Int, (k = 0 ∨ k = 1 ∨ k = 2 ∨ k = 3) ∧ v = .int .i64 k ∧ upto (fun j => wiB (c (3 + j)) (c j) 1125899906842624) k.toNat ∧ Asd (St w wr [(w.heap.size, [.int .i64 (c 0), .int .i64 (c 1), .int .i64 (c 2), .int .i64 (c 3), .int .i64 (c 4), .int .i64 (c 5), .int .i64 (c 6), .int .i64 (c 7), .int .i64 (c 8), .int .i64 (c 9), .int .i64 (c 10), .int .i64 (c 11), .int .i64 (c 12), .int .i64 (c 13), .int .i64 (c 14), .int .i64 (c 15), .int .i64 (c 16), .int .i64 (c 17), .int .i64 (c 18), .int .i64 (c 19), .int .i64 (c 20), .int .i64 (c 21), .int .i64 (c 22), .int .i64 (c 23), .int .i64 (c 24), .int .i64 (c 25), .int .i64 (c 26), .int .i64 (c 27), .int .i64 (c 28), .int .i64 (c 29), .int .i64 (c 30)])] [])) (fun v _ => 3 - (intOf v).toNat)
    case atStart => exact ⟨0, by decide, rfl, up_0 _, S1⟩
    case round =>
      obtain ⟨k, hk, rfl, hu, S2⟩ := hrel
      clear S1
      rcases hk with rfl | rfl | rfl | rfl
      · obtain ⟨b, hb⟩ : ∃ b, wiB (c (3 + 0)) (c 0) 1125899906842624 = b := ⟨_, rfl⟩
        have L2 := S2.out.facts.1; simp only at L2; have e2_0 := St.cell S2.out 0 0 rfl rfl; have e2_3 := St.cell S2.out 0 3 rfl rfl
        cases b
        all_goals (go_wp2; go_quiet (first | (go_at_call 24; exact quiet_left' (ref13_in _ _ _ _)) | (go_at_call 27; with_reducible exact quiet_left' (Big_17 _)) | (go_at_call 27; with_reducible exact quiet_left' (Big_38 _)) | (go_at_call 27; with_reducible exact quiet_left' (Big_40 _)) | (go_at_call 27; with_reducible exact quiet_left' (Big_42 _)) | (go_at_call 27; with_reducible exact quiet_left' (Big_50 _)) | (go_at_call 27; with_reducible exact quiet_left' (Big_54 _)) | (go_at_call 27; with_reducible exact quiet_left' (Big_56 _))); go_wp2)
        · have hr : ruleB c 2 = false := not_3 (p := (fun j => wiB (c (3 + j)) (c j) 1125899906842624)) (k := 0) (by decide) hb
          go_ret
          exact ⟨by rw [← first_stop hf hr]; rfl, by repeat (first | exact S2.out.bl | refine bl_drewN ?_ _ | refine bl_drew ?_)⟩
        · go_roundw
          case rel => exact ⟨1, by decide, rfl, up_s (n := 0) hu hb, ⟨St.drewN S2.out _⟩⟩
          case measure => simp [intOf]
      · obtain ⟨b, hb⟩ : ∃ b, wiB (c (3 + 1)) (c 1) 1125899906842624 = b := ⟨_, rfl⟩
        have L2 := S2.out.facts.1; simp only at L2; have e2_1 := St.cell S2.out 0 1 rfl rfl; have e2_4 := St.cell S2.out 0 4 rfl rfl
        cases b
        all_goals (go_wp2; go_quiet (first | (go_at_call 24; exact quiet_left' (ref13_in _ _ _ _)) | (go_at_call 27; with_reducible exact quiet_left' (Big_17 _)) | (go_at_call 27; with_reducible exact quiet_left' (Big_38 _)) | (go_at_call 27; with_reducible exact quiet_left' (Big_40 _)) | (go_at_call 27; with_reducible exact quiet_left' (Big_42 _)) | (go_at_call 27; with_reducible exact quiet_left' (Big_50 _)) | (go_at_call 27; with_reducible exact quiet_left' (Big_54 _)) | (go_at_call 27; with_reducible exact quiet_left' (Big_56 _))); go_wp2)
        · have hr : ruleB c 2 = false := not_3 (p := (fun j => wiB (c (3 + j)) (c j) 1125899906842624)) (k := 1) (by decide) hb
          go_ret
          exact ⟨by rw [← first_stop hf hr]; rfl, by repeat (first | exact S2.out.bl | refine bl_drewN ?_ _ | refine bl_drew ?_)⟩
        · go_roundw
          case rel => exact ⟨2, by decide, rfl, up_s (n := 1) hu hb, ⟨St.drewN S2.out _⟩⟩
          case measure => simp [intOf]
      · obtain ⟨b, hb⟩ : ∃ b, wiB (c (3 + 2)) (c 2) 1125899906842624 = b := ⟨_, rfl⟩
        have L2 := S2.out.facts.1; simp only at L2; have e2_2 := St.cell S2.out 0 2 rfl rfl; have e2_5 := St.cell S2.out 0 5 rfl rfl
        cases b
        all_goals (go_wp2; go_quiet (first | (go_at_call 24; exact quiet_left' (ref13_in _ _ _ _)) | (go_at_call 27; with_reducible exact quiet_left' (Big_17 _)) | (go_at_call 27; with_reducible exact quiet_left' (Big_38 _)) | (go_at_call 27; with_reducible exact quiet_left' (Big_40 _)) | (go_at_call 27; with_reducible exact quiet_left' (Big_42 _)) | (go_at_call 27; with_reducible exact quiet_left' (Big_50 _)) | (go_at_call 27; with_reducible exact quiet_left' (Big_54 _)) | (go_at_call 27; with_reducible exact quiet_left' (Big_56 _))); go_wp2)
        · have hr : ruleB c 2 = false := not_3 (p := (fun j => wiB (c (3 + j)) (c j) 1125899906842624)) (k := 2) (by decide) hb
          go_ret
          exact ⟨by rw [← first_stop hf hr]; rfl, by repeat (first | exact S2.out.bl | refine bl_drewN ?_ _ | refine bl_drew ?_)⟩
        · go_roundw
          case rel => exact ⟨3, by decide, rfl, up_s (n := 2) hu hb, ⟨St.drewN S2.out _⟩⟩
          case measure => simp [intOf]
      have hr : ruleB c 2 = true := up_3 hu
      replace hf := first_step hf hr
      clear hr hu
      have L2 := S2.out.facts.1; simp only at L2; have e2_6 := St.cell S2.out 0 6 rfl rfl
      obtain ⟨b, hr⟩ : ∃ b, ruleB c 3 = b := ⟨_, rfl⟩
      have hb : wiB (c 6) 274877906944 1125899906842624 = b := hr
      cases b
      all_goals (go_wp2; go_quiet (first | (go_at_call 24; exact quiet_left' (ref13_in _ _ _ _)) | (go_at_call 27; with_reducible exact quiet_left' (Big_17 _)) | (go_at_call 27; with_reducible exact quiet_left' (Big_38 _)) | (go_at_call 27; with_reducible exact quiet_left' (Big_40 _)) | (go_at_call 27; with_reducible exact quiet_left' (Big_42 _)) | (go_at_call 27; with_reducible exact quiet_left' (Big_50 _)) | (go_at_call 27; with_reducible exact quiet_left' (Big_54 _)) | (go_at_call 27; with_reducible exact quiet_left' (Big_56 _))); go_wp2)
      · go_ret
        exact ⟨by rw [← first_stop hf hr]; rfl, by repeat (first | exact S2.out.bl | refine bl_drewN ?_ _ | refine bl_drew ?_)⟩
      clear hb
      replace hf := first_step hf hr
      clear hr
      generalize hwr : World.drewN wr _ = wr3
      have S3 : Asd (St w wr3 [(w.heap.size, [.int .i64 (c 0), .int .i64 (c 1), .int .i64 (c 2), .int .i64 (c 3), .int .i64 (c 4), .int .i64 (c 5), .int .i64 (c 6), .int .i64 (c 7), .int .i64 (c 8), .int .i64 (c 9), .int .i64 (c 10), .int .i64 (c 11), .int .i64 (c 12), .int .i64 (c 13), .int .i64 (c 14), .int .i64 (c 15), .int .i64 (c 16), .int .i64 (c 17), .int .i64 (c 18), .int .i64 (c 19), .int .i64 (c 20), .int .i64 (c 21), .int .i64 (c 22), .int .i64 (c 23), .int .i64 (c 24), .int .i64 (c 25), .int .i64 (c 26), .int .i64 (c 27), .int .i64 (c 28), .int .i64 (c 29), .int .i64 (c 30)])] []) := ⟨by rw [← hwr]; exact St.drewN S2.out _⟩
      clear L2 e2_6
      clear S2 hwr
      have L3 := S3.out.facts.1; simp only at L3; have e3_6 := St.cell S3.out 0 6 rfl rfl; have e3_7 := St.cell S3.out 0 7 rfl rfl
      obtain ⟨b, hr⟩ : ∃ b, ruleB c 4 = b := ⟨_, rfl⟩
      have hb : wiB (c 7) (c 6) 1125899906842624 = b := hr
      cases b
      all_goals (go_wp2; go_quiet (first | (go_at_call 24; exact quiet_left' (ref13_in _ _ _ _)) | (go_at_call 27; with_reducible exact quiet_left' (Big_17 _)) | (go_at_call 27; with_reducible exact quiet_left' (Big_38 _)) | (go_at_call 27; with_reducible exact quiet_left' (Big_40 _)) | (go_at_call 27; with_reducible exact quiet_left' (Big_42 _)) | (go_at_call 27; with_reducible exact quiet_left' (Big_50 _)) | (go_at_call 27; with_reducible exact quiet_left' (Big_54 _)) | (go_at_call 27; with_reducible exact quiet_left' (Big_56 _))); go_wp2)
      · go_ret
        exact ⟨by rw [← first_stop hf hr]; rfl, by repeat (first | exact S3.out.bl | refine bl_drewN ?_ _ | refine bl_drew ?_)⟩
      clear hb
      replace hf := first_step hf hr
      clear hr
      generalize hwr : World.drewN wr3 _ = wr4
      have S4 : Asd (St w wr4 [(w.heap.size, [.int .i64 (c 0), .int .i64 (c 1), .int .i64 (c 2), .int .i64 (c 3), .int .i64 (c 4), .int .i64 (c 5), .int .i64 (c 6), .int .i64 (c 7), .int .i64 (c 8), .int .i64 (c 9), .int .i64 (c 10), .int .i64 (c 11), .int .i64 (c 12), .int .i64 (c 13), .int .i64 (c 14), .int .i64 (c 15), .int .i64 (c 16), .int .i64 (c 17), .int .i64 (c 18), .int .i64 (c 19), .int .i64 (c 20), .int .i64 (c 21), .int .i64 (c 22), .int .i64 (c 23), .int .i64 (c 24), .int .i64 (c 25), .int .i64 (c 26), .int .i64 (c 27), .int .i64 (c 28), .int .i64 (c 29), .int .i64 (c 30)])] []) := ⟨by rw [← hwr]; exact St.drewN S3.out _⟩
      clear L3 e3_6 e3_7
      clear S3 hwr
      have L4 := S4.out.facts.1; simp only at L4; have e4_11 := St.cell S4.out 0 11 rfl rfl; have e4_12 := St.cell S4.out 0 12 rfl rfl; have e4_13 := St.cell S4.out 0 13 rfl rfl; have e4_14 := St.cell S4.out 0 14 rfl rfl; have e4_15 := St.cell S4.out 0 15 rfl rfl; have e4_16 := St.cell S4.out 0 16 rfl rfl
      obtain ⟨M, hM⟩ : ∃ M, mayB (fun i => c (11 + i)) (fun i => c (14 + i)) = M := ⟨_, rfl⟩
      have HM : Asd (∀ W, Calls Try.prog 51 #[.agg #[.int .i64 (c 11), .int .i64 (c 12), .int .i64 (c 13)], .agg #[.int .i64 (c 14), .int .i64 (c 15), .int .i64 (c 16)]] W fun e w' => e = .returned (.bool M) ∧ Below W.heap.size W w') := ⟨fun W => by
        have k := ref9_May (fun i => c (11 + i)) (fun i => c (14 + i)) W
        rw [← hM]; exact k⟩
      have h5 : ruleB c 5 = (M && (decide (c 14 ≤ 72057594037927936) && (decide (c 15 ≤ 72057594037927936) && decide (c 16 ≤ 72057594037927936)))) := by rw [← hM]; rfl
      clear hM
      cases M
      · have hr : ruleB c 5 = false := by rw [h5]; rfl
        go_wp2
        refine wp_region_held_drew (S := (fun w' => w'.cell? ⟨w.heap.size, 11, none⟩ = some (.int .i64 (c 11)) ∧ w'.cell? ⟨w.heap.size, 12, none⟩ = some (.int .i64 (c 12)) ∧ w'.cell? ⟨w.heap.size, 13, none⟩ = some (.int .i64 (c 13)) ∧ w'.cell? ⟨w.heap.size, 14, none⟩ = some (.int .i64 (c 14)) ∧ w'.cell? ⟨w.heap.size, 15, none⟩ = some (.int .i64 (c 15)) ∧ w'.cell? ⟨w.heap.size, 16, none⟩ = some (.int .i64 (c 16)))) (by kernel_rfl) ?_ (fun hHeld => ?_)
        · (try dsimp only); first | exact ⟨e4_11, e4_12, e4_13, e4_14, e4_15, e4_16⟩ | exact ⟨e5_11, e5_12, e5_13, e5_14, e5_15, e5_16⟩ | exact hHeld
        refine wpAnyH_take (i := 0) (oi := ?oi1) (v := ?v1) ?hi1 ?hs1 ?hf1 ?hr1 ?hQ1 ?hy1 ?hS1 ?_
        case hi1 => (simp only [List.getElem?_toArray, List.getElem?_cons_zero, List.getElem?_cons_succ]; rfl)
        case hs1 => kernel_rfl
        case hf1 => kernel_rfl
        case hr1 => kernel_rfl
        case hQ1 => exact fun _ _ _ h => h
        case hS1 => assumption
        case hy1 => (refine Or.inl ⟨by kernel_rfl, ?_⟩; intro w hSw; (try dsimp only at hSw); go_simp; (try with_reducible rfl))
        (try simp only [Act.put, List.setIfInBounds_toArray, List.set_cons_zero, List.set_cons_succ])
        refine wpAnyH_take (i := 1) (oi := ?oi2) (v := ?v2) ?hi2 ?hs2 ?hf2 ?hr2 ?hQ2 ?hy2 ?hS2 ?_
        case hi2 => (simp only [List.getElem?_toArray, List.getElem?_cons_zero, List.getElem?_cons_succ]; rfl)
        case hs2 => kernel_rfl
        case hf2 => kernel_rfl
        case hr2 => kernel_rfl
        case hQ2 => exact fun _ _ _ h => h
        case hS2 => assumption
        case hy2 => (refine Or.inl ⟨by kernel_rfl, ?_⟩; intro w hSw; (try dsimp only at hSw); go_simp; (try with_reducible rfl))
        (try simp only [Act.put, List.setIfInBounds_toArray, List.set_cons_zero, List.set_cons_succ])
        refine wpAnyH_take (i := 2) (oi := ?oi3) (v := ?v3) ?hi3 ?hs3 ?hf3 ?hr3 ?hQ3 ?hy3 ?hS3 ?_
        case hi3 => (simp only [List.getElem?_toArray, List.getElem?_cons_zero, List.getElem?_cons_succ]; rfl)
        case hs3 => kernel_rfl
        case hf3 => kernel_rfl
        case hr3 => kernel_rfl
        case hQ3 => exact fun _ _ _ h => h
        case hS3 => assumption
        case hy3 => (refine Or.inl ⟨by kernel_rfl, ?_⟩; intro w hSw; (try dsimp only at hSw); go_simp; (try with_reducible rfl))
        (try simp only [Act.put, List.setIfInBounds_toArray, List.set_cons_zero, List.set_cons_succ])
        refine wpAnyH_take (i := 3) (oi := ?oi4) (v := ?v4) ?hi4 ?hs4 ?hf4 ?hr4 ?hQ4 ?hy4 ?hS4 ?_
        case hi4 => (simp only [List.getElem?_toArray, List.getElem?_cons_zero, List.getElem?_cons_succ]; rfl)
        case hs4 => kernel_rfl
        case hf4 => kernel_rfl
        case hr4 => kernel_rfl
        case hQ4 => exact fun _ _ _ h => h
        case hS4 => assumption
        case hy4 => (refine Or.inl ⟨by kernel_rfl, ?_⟩; intro w hSw; (try dsimp only at hSw); go_simp; (try with_reducible rfl))
        (try simp only [Act.put, List.setIfInBounds_toArray, List.set_cons_zero, List.set_cons_succ])
        refine wpAnyH_ready (rs := [4]) (by kernel_rfl) (by simp) ?_
        refine AllReadyH.cons (o := ?oi5) ?hi5 (fun K hK => ?_) AllReadyH.nil
        case hi5 => (simp only [List.getElem?_toArray, List.getElem?_cons_zero, List.getElem?_cons_succ]; rfl)
        go_simp
        (go_at_call 51; replace S4 := S4; refine (HM.out _).mono ?_; rintro e w5 ⟨rfl, hb5⟩; apply St.step (w0 := w) (hb := hb5); (focus (with_reducible repeat (first | exact S4.out | apply St.drewN | apply St.drew))); intro S5; clear hb5 S4; have L5 := S5.out.facts.1; simp only at L5; have e5_11 := St.cell S5.out 0 11 rfl rfl; have e5_12 := St.cell S5.out 0 12 rfl rfl; have e5_13 := St.cell S5.out 0 13 rfl rfl; have e5_14 := St.cell S5.out 0 14 rfl rfl; have e5_15 := St.cell S5.out 0 15 rfl rfl; have e5_16 := St.cell S5.out 0 16 rfl rfl)
        (try dsimp only [])
        refine hK.out _ _ ?_ (fun hHeld => ?_)
        · (try dsimp only); first | exact ⟨e4_11, e4_12, e4_13, e4_14, e4_15, e4_16⟩ | exact ⟨e5_11, e5_12, e5_13, e5_14, e5_15, e5_16⟩ | exact hHeld
        clear hK K
        (try simp only [Act.put, List.setIfInBounds_toArray, List.set_cons_zero, List.set_cons_succ])
        refine wpAnyH_take (i := 5) (oi := ?oi6) (v := ?v6) ?hi6 ?hs6 ?hf6 ?hr6 ?hQ6 ?hy6 ?hS6 ?_
        case hi6 => (simp only [List.getElem?_toArray, List.getElem?_cons_zero, List.getElem?_cons_succ]; rfl)
        case hs6 => kernel_rfl
        case hf6 => kernel_rfl
        case hr6 => kernel_rfl
        case hQ6 => exact fun _ _ _ h => h
        case hS6 => assumption
        case hy6 => (refine Or.inl ⟨by kernel_rfl, ?_⟩; intro w hSw; (try dsimp only at hSw); go_simp; (try with_reducible rfl))
        (try simp only [Act.put, List.setIfInBounds_toArray, List.set_cons_zero, List.set_cons_succ])
        refine wpAnyH_take (i := 6) (oi := ?oi7) (v := ?v7) ?hi7 ?hs7 ?hf7 ?hr7 ?hQ7 ?hy7 ?hS7 ?_
        case hi7 => (simp only [List.getElem?_toArray, List.getElem?_cons_zero, List.getElem?_cons_succ]; rfl)
        case hs7 => kernel_rfl
        case hf7 => kernel_rfl
        case hr7 => kernel_rfl
        case hQ7 => exact fun _ _ _ h => h
        case hS7 => assumption
        case hy7 => (refine Or.inl ⟨by kernel_rfl, ?_⟩; intro w hSw; (try dsimp only at hSw); go_simp; (try with_reducible rfl))
        (try simp only [Act.put, List.setIfInBounds_toArray, List.set_cons_zero, List.set_cons_succ])
        refine wpAnyH_take (i := 7) (oi := ?oi8) (v := undef) ?hi8 ?hs8 ?hf8 ?hr8 ?hQ8 ?hy8 ?hS8 ?_
        case hi8 => (simp only [List.getElem?_toArray, List.getElem?_cons_zero, List.getElem?_cons_succ]; rfl)
        case hs8 => kernel_rfl
        case hf8 => kernel_rfl
        case hr8 => kernel_rfl
        case hQ8 => exact fun _ _ _ h => h
        case hS8 => assumption
        case hy8 => exact Or.inr ⟨by kernel_rfl, rfl⟩
        (try simp only [Act.put, List.setIfInBounds_toArray, List.set_cons_zero, List.set_cons_succ])
        refine wpAnyH_take (i := 8) (oi := ?oi9) (v := undef) ?hi9 ?hs9 ?hf9 ?hr9 ?hQ9 ?hy9 ?hS9 ?_
        case hi9 => (simp only [List.getElem?_toArray, List.getElem?_cons_zero, List.getElem?_cons_succ]; rfl)
        case hs9 => kernel_rfl
        case hf9 => kernel_rfl
        case hr9 => kernel_rfl
        case hQ9 => exact fun _ _ _ h => h
        case hS9 => assumption
        case hy9 => exact Or.inr ⟨by kernel_rfl, rfl⟩
        (try simp only [Act.put, List.setIfInBounds_toArray, List.set_cons_zero, List.set_cons_succ])
        refine wpAnyH_take (i := 9) (oi := ?oi10) (v := undef) ?hi10 ?hs10 ?hf10 ?hr10 ?hQ10 ?hy10 ?hS10 ?_
        case hi10 => (simp only [List.getElem?_toArray, List.getElem?_cons_zero, List.getElem?_cons_succ]; rfl)
        case hs10 => kernel_rfl
        case hf10 => kernel_rfl
        case hr10 => kernel_rfl
        case hQ10 => exact fun _ _ _ h => h
        case hS10 => assumption
        case hy10 => exact Or.inr ⟨by kernel_rfl, rfl⟩
        (try simp only [Act.put, List.setIfInBounds_toArray, List.set_cons_zero, List.set_cons_succ])
        refine wpAnyH_take (i := 10) (oi := ?oi11) (v := undef) ?hi11 ?hs11 ?hf11 ?hr11 ?hQ11 ?hy11 ?hS11 ?_
        case hi11 => (simp only [List.getElem?_toArray, List.getElem?_cons_zero, List.getElem?_cons_succ]; rfl)
        case hs11 => kernel_rfl
        case hf11 => kernel_rfl
        case hr11 => kernel_rfl
        case hQ11 => exact fun _ _ _ h => h
        case hS11 => assumption
        case hy11 => exact Or.inr ⟨by kernel_rfl, rfl⟩
        (try simp only [Act.put, List.setIfInBounds_toArray, List.set_cons_zero, List.set_cons_succ])
        refine wpAnyH_take (i := 11) (oi := ?oi12) (v := undef) ?hi12 ?hs12 ?hf12 ?hr12 ?hQ12 ?hy12 ?hS12 ?_
        case hi12 => (simp only [List.getElem?_toArray, List.getElem?_cons_zero, List.getElem?_cons_succ]; rfl)
        case hs12 => kernel_rfl
        case hf12 => kernel_rfl
        case hr12 => kernel_rfl
        case hQ12 => exact fun _ _ _ h => h
        case hS12 => assumption
        case hy12 => exact Or.inr ⟨by kernel_rfl, rfl⟩
        (try simp only [Act.put, List.setIfInBounds_toArray, List.set_cons_zero, List.set_cons_succ])
        refine wpAnyH_take (i := 12) (oi := ?oi13) (v := ?v13) ?hi13 ?hs13 ?hf13 ?hr13 ?hQ13 ?hy13 ?hS13 ?_
        case hi13 => (simp only [List.getElem?_toArray, List.getElem?_cons_zero, List.getElem?_cons_succ]; rfl)
        case hs13 => kernel_rfl
        case hf13 => kernel_rfl
        case hr13 => kernel_rfl
        case hQ13 => exact fun _ _ _ h => h
        case hS13 => assumption
        case hy13 => (refine Or.inl ⟨by kernel_rfl, ?_⟩; intro w hSw; (try dsimp only at hSw); go_simp; (try with_reducible rfl))
        (try simp only [Act.put, List.setIfInBounds_toArray, List.set_cons_zero, List.set_cons_succ])
        refine wpAnyH_take (i := 13) (oi := ?oi14) (v := ?v14) ?hi14 ?hs14 ?hf14 ?hr14 ?hQ14 ?hy14 ?hS14 ?_
        case hi14 => (simp only [List.getElem?_toArray, List.getElem?_cons_zero, List.getElem?_cons_succ]; rfl)
        case hs14 => kernel_rfl
        case hf14 => kernel_rfl
        case hr14 => kernel_rfl
        case hQ14 => exact fun _ _ _ h => h
        case hS14 => assumption
        case hy14 => (refine Or.inl ⟨by kernel_rfl, ?_⟩; intro w hSw; (try dsimp only at hSw); go_simp; (try with_reducible rfl))
        (try simp only [Act.put, List.setIfInBounds_toArray, List.set_cons_zero, List.set_cons_succ])
        refine wpAnyH_take (i := 14) (oi := ?oi15) (v := undef) ?hi15 ?hs15 ?hf15 ?hr15 ?hQ15 ?hy15 ?hS15 ?_
        case hi15 => (simp only [List.getElem?_toArray, List.getElem?_cons_zero, List.getElem?_cons_succ]; rfl)
        case hs15 => kernel_rfl
        case hf15 => kernel_rfl
        case hr15 => kernel_rfl
        case hQ15 => exact fun _ _ _ h => h
        case hS15 => assumption
        case hy15 => exact Or.inr ⟨by kernel_rfl, rfl⟩
        (try simp only [Act.put, List.setIfInBounds_toArray, List.set_cons_zero, List.set_cons_succ])
        refine wpAnyH_take (i := 15) (oi := ?oi16) (v := undef) ?hi16 ?hs16 ?hf16 ?hr16 ?hQ16 ?hy16 ?hS16 ?_
        case hi16 => (simp only [List.getElem?_toArray, List.getElem?_cons_zero, List.getElem?_cons_succ]; rfl)
        case hs16 => kernel_rfl
        case hf16 => kernel_rfl
        case hr16 => kernel_rfl
        case hQ16 => exact fun _ _ _ h => h
        case hS16 => assumption
        case hy16 => exact Or.inr ⟨by kernel_rfl, rfl⟩
        (try simp only [Act.put, List.setIfInBounds_toArray, List.set_cons_zero, List.set_cons_succ])
        refine wpAnyH_take (i := 16) (oi := ?oi17) (v := undef) ?hi17 ?hs17 ?hf17 ?hr17 ?hQ17 ?hy17 ?hS17 ?_
        case hi17 => (simp only [List.getElem?_toArray, List.getElem?_cons_zero, List.getElem?_cons_succ]; rfl)
        case hs17 => kernel_rfl
        case hf17 => kernel_rfl
        case hr17 => kernel_rfl
        case hQ17 => exact fun _ _ _ h => h
        case hS17 => assumption
        case hy17 => exact Or.inr ⟨by kernel_rfl, rfl⟩
        (try simp only [Act.put, List.setIfInBounds_toArray, List.set_cons_zero, List.set_cons_succ])
        refine wpAnyH_take (i := 17) (oi := ?oi18) (v := undef) ?hi18 ?hs18 ?hf18 ?hr18 ?hQ18 ?hy18 ?hS18 ?_
        case hi18 => (simp only [List.getElem?_toArray, List.getElem?_cons_zero, List.getElem?_cons_succ]; rfl)
        case hs18 => kernel_rfl
        case hf18 => kernel_rfl
        case hr18 => kernel_rfl
        case hQ18 => exact fun _ _ _ h => h
        case hS18 => assumption
        case hy18 => exact Or.inr ⟨by kernel_rfl, rfl⟩
        (try simp only [Act.put, List.setIfInBounds_toArray, List.set_cons_zero, List.set_cons_succ])
        refine wpAnyH_take (i := 18) (oi := ?oi19) (v := undef) ?hi19 ?hs19 ?hf19 ?hr19 ?hQ19 ?hy19 ?hS19 ?_
        case hi19 => (simp only [List.getElem?_toArray, List.getElem?_cons_zero, List.getElem?_cons_succ]; rfl)
        case hs19 => kernel_rfl
        case hf19 => kernel_rfl
        case hr19 => kernel_rfl
        case hQ19 => exact fun _ _ _ h => h
        case hS19 => assumption
        case hy19 => exact Or.inr ⟨by kernel_rfl, rfl⟩
        (try simp only [Act.put, List.setIfInBounds_toArray, List.set_cons_zero, List.set_cons_succ])
        refine wpAnyH_take (i := 19) (oi := ?oi20) (v := ?v20) ?hi20 ?hs20 ?hf20 ?hr20 ?hQ20 ?hy20 ?hS20 ?_
        case hi20 => (simp only [List.getElem?_toArray, List.getElem?_cons_zero, List.getElem?_cons_succ]; rfl)
        case hs20 => kernel_rfl
        case hf20 => kernel_rfl
        case hr20 => kernel_rfl
        case hQ20 => exact fun _ _ _ h => h
        case hS20 => assumption
        case hy20 => (refine Or.inl ⟨by kernel_rfl, ?_⟩; intro w hSw; (try dsimp only at hSw); go_simp; (try with_reducible rfl))
        (try simp only [Act.put, List.setIfInBounds_toArray, List.set_cons_zero, List.set_cons_succ])
        refine wpAnyH_take (i := 20) (oi := ?oi21) (v := ?v21) ?hi21 ?hs21 ?hf21 ?hr21 ?hQ21 ?hy21 ?hS21 ?_
        case hi21 => (simp only [List.getElem?_toArray, List.getElem?_cons_zero, List.getElem?_cons_succ]; rfl)
        case hs21 => kernel_rfl
        case hf21 => kernel_rfl
        case hr21 => kernel_rfl
        case hQ21 => exact fun _ _ _ h => h
        case hS21 => assumption
        case hy21 => (refine Or.inl ⟨by kernel_rfl, ?_⟩; intro w hSw; (try dsimp only at hSw); go_simp; (try with_reducible rfl))
        (try simp only [Act.put, List.setIfInBounds_toArray, List.set_cons_zero, List.set_cons_succ])
        refine wpAnyH_take (i := 21) (oi := ?oi22) (v := undef) ?hi22 ?hs22 ?hf22 ?hr22 ?hQ22 ?hy22 ?hS22 ?_
        case hi22 => (simp only [List.getElem?_toArray, List.getElem?_cons_zero, List.getElem?_cons_succ]; rfl)
        case hs22 => kernel_rfl
        case hf22 => kernel_rfl
        case hr22 => kernel_rfl
        case hQ22 => exact fun _ _ _ h => h
        case hS22 => assumption
        case hy22 => exact Or.inr ⟨by kernel_rfl, rfl⟩
        (try simp only [Act.put, List.setIfInBounds_toArray, List.set_cons_zero, List.set_cons_succ])
        refine wpAnyH_take (i := 22) (oi := ?oi23) (v := undef) ?hi23 ?hs23 ?hf23 ?hr23 ?hQ23 ?hy23 ?hS23 ?_
        case hi23 => (simp only [List.getElem?_toArray, List.getElem?_cons_zero, List.getElem?_cons_succ]; rfl)
        case hs23 => kernel_rfl
        case hf23 => kernel_rfl
        case hr23 => kernel_rfl
        case hQ23 => exact fun _ _ _ h => h
        case hS23 => assumption
        case hy23 => exact Or.inr ⟨by kernel_rfl, rfl⟩
        (try simp only [Act.put, List.setIfInBounds_toArray, List.set_cons_zero, List.set_cons_succ])
        refine wpAnyH_take (i := 23) (oi := ?oi24) (v := undef) ?hi24 ?hs24 ?hf24 ?hr24 ?hQ24 ?hy24 ?hS24 ?_
        case hi24 => (simp only [List.getElem?_toArray, List.getElem?_cons_zero, List.getElem?_cons_succ]; rfl)
        case hs24 => kernel_rfl
        case hf24 => kernel_rfl
        case hr24 => kernel_rfl
        case hQ24 => exact fun _ _ _ h => h
        case hS24 => assumption
        case hy24 => exact Or.inr ⟨by kernel_rfl, rfl⟩
        (try simp only [Act.put, List.setIfInBounds_toArray, List.set_cons_zero, List.set_cons_succ])
        refine wpAnyH_take (i := 24) (oi := ?oi25) (v := undef) ?hi25 ?hs25 ?hf25 ?hr25 ?hQ25 ?hy25 ?hS25 ?_
        case hi25 => (simp only [List.getElem?_toArray, List.getElem?_cons_zero, List.getElem?_cons_succ]; rfl)
        case hs25 => kernel_rfl
        case hf25 => kernel_rfl
        case hr25 => kernel_rfl
        case hQ25 => exact fun _ _ _ h => h
        case hS25 => assumption
        case hy25 => exact Or.inr ⟨by kernel_rfl, rfl⟩
        (try simp only [Act.put, List.setIfInBounds_toArray, List.set_cons_zero, List.set_cons_succ])
        refine wpAnyH_take (i := 25) (oi := ?oi26) (v := undef) ?hi26 ?hs26 ?hf26 ?hr26 ?hQ26 ?hy26 ?hS26 ?_
        case hi26 => (simp only [List.getElem?_toArray, List.getElem?_cons_zero, List.getElem?_cons_succ]; rfl)
        case hs26 => kernel_rfl
        case hf26 => kernel_rfl
        case hr26 => kernel_rfl
        case hQ26 => exact fun _ _ _ h => h
        case hS26 => assumption
        case hy26 => exact Or.inr ⟨by kernel_rfl, rfl⟩
        (try simp only [Act.put, List.setIfInBounds_toArray, List.set_cons_zero, List.set_cons_succ])
        refine wpAnyH_take (i := 26) (oi := ?oi27) (v := ?v27) ?hi27 ?hs27 ?hf27 ?hr27 ?hQ27 ?hy27 ?hS27 ?_
        case hi27 => (simp only [List.getElem?_toArray, List.getElem?_cons_zero, List.getElem?_cons_succ]; rfl)
        case hs27 => kernel_rfl
        case hf27 => kernel_rfl
        case hr27 => kernel_rfl
        case hQ27 => exact fun _ _ _ h => h
        case hS27 => assumption
        case hy27 => (refine Or.inl ⟨by kernel_rfl, ?_⟩; intro w hSw; (try dsimp only at hSw); go_simp; (try with_reducible rfl))
        (try simp only [Act.put, List.setIfInBounds_toArray, List.set_cons_zero, List.set_cons_succ])
        refine wpAnyH_done (by kernel_rfl) ?_ _
        all_goals (go_wp2; (go_ret; exact ⟨by rw [← first_stop hf hr]; rfl, by repeat (first | exact S5.out.bl | refine bl_drewN ?_ _ | refine bl_drew ?_)⟩))
      cases a14 : decide (72057594037927936 < c 14)
      rotate_left
      · have hr : ruleB c 5 = false := by rw [h5]; simp at a14; simp; omega
        go_wp2
        refine wp_region_held_drew (S := (fun w' => w'.cell? ⟨w.heap.size, 11, none⟩ = some (.int .i64 (c 11)) ∧ w'.cell? ⟨w.heap.size, 12, none⟩ = some (.int .i64 (c 12)) ∧ w'.cell? ⟨w.heap.size, 13, none⟩ = some (.int .i64 (c 13)) ∧ w'.cell? ⟨w.heap.size, 14, none⟩ = some (.int .i64 (c 14)) ∧ w'.cell? ⟨w.heap.size, 15, none⟩ = some (.int .i64 (c 15)) ∧ w'.cell? ⟨w.heap.size, 16, none⟩ = some (.int .i64 (c 16)))) (by kernel_rfl) ?_ (fun hHeld => ?_)
        · (try dsimp only); first | exact ⟨e4_11, e4_12, e4_13, e4_14, e4_15, e4_16⟩ | exact ⟨e5_11, e5_12, e5_13, e5_14, e5_15, e5_16⟩ | exact hHeld
        refine wpAnyH_take (i := 0) (oi := ?oi28) (v := ?v28) ?hi28 ?hs28 ?hf28 ?hr28 ?hQ28 ?hy28 ?hS28 ?_
        case hi28 => (simp only [List.getElem?_toArray, List.getElem?_cons_zero, List.getElem?_cons_succ]; rfl)
        case hs28 => kernel_rfl
        case hf28 => kernel_rfl
        case hr28 => kernel_rfl
        case hQ28 => exact fun _ _ _ h => h
        case hS28 => assumption
        case hy28 => (refine Or.inl ⟨by kernel_rfl, ?_⟩; intro w hSw; (try dsimp only at hSw); go_simp; (try with_reducible rfl))
        (try simp only [Act.put, List.setIfInBounds_toArray, List.set_cons_zero, List.set_cons_succ])
        refine wpAnyH_take (i := 1) (oi := ?oi29) (v := ?v29) ?hi29 ?hs29 ?hf29 ?hr29 ?hQ29 ?hy29 ?hS29 ?_
        case hi29 => (simp only [List.getElem?_toArray, List.getElem?_cons_zero, List.getElem?_cons_succ]; rfl)
        case hs29 => kernel_rfl
        case hf29 => kernel_rfl
        case hr29 => kernel_rfl
        case hQ29 => exact fun _ _ _ h => h
        case hS29 => assumption
        case hy29 => (refine Or.inl ⟨by kernel_rfl, ?_⟩; intro w hSw; (try dsimp only at hSw); go_simp; (try with_reducible rfl))
        (try simp only [Act.put, List.setIfInBounds_toArray, List.set_cons_zero, List.set_cons_succ])
        refine wpAnyH_take (i := 2) (oi := ?oi30) (v := ?v30) ?hi30 ?hs30 ?hf30 ?hr30 ?hQ30 ?hy30 ?hS30 ?_
        case hi30 => (simp only [List.getElem?_toArray, List.getElem?_cons_zero, List.getElem?_cons_succ]; rfl)
        case hs30 => kernel_rfl
        case hf30 => kernel_rfl
        case hr30 => kernel_rfl
        case hQ30 => exact fun _ _ _ h => h
        case hS30 => assumption
        case hy30 => (refine Or.inl ⟨by kernel_rfl, ?_⟩; intro w hSw; (try dsimp only at hSw); go_simp; (try with_reducible rfl))
        (try simp only [Act.put, List.setIfInBounds_toArray, List.set_cons_zero, List.set_cons_succ])
        refine wpAnyH_take (i := 3) (oi := ?oi31) (v := ?v31) ?hi31 ?hs31 ?hf31 ?hr31 ?hQ31 ?hy31 ?hS31 ?_
        case hi31 => (simp only [List.getElem?_toArray, List.getElem?_cons_zero, List.getElem?_cons_succ]; rfl)
        case hs31 => kernel_rfl
        case hf31 => kernel_rfl
        case hr31 => kernel_rfl
        case hQ31 => exact fun _ _ _ h => h
        case hS31 => assumption
        case hy31 => (refine Or.inl ⟨by kernel_rfl, ?_⟩; intro w hSw; (try dsimp only at hSw); go_simp; (try with_reducible rfl))
        (try simp only [Act.put, List.setIfInBounds_toArray, List.set_cons_zero, List.set_cons_succ])
        refine wpAnyH_ready (rs := [4]) (by kernel_rfl) (by simp) ?_
        refine AllReadyH.cons (o := ?oi32) ?hi32 (fun K hK => ?_) AllReadyH.nil
        case hi32 => (simp only [List.getElem?_toArray, List.getElem?_cons_zero, List.getElem?_cons_succ]; rfl)
        go_simp
        (go_at_call 51; replace S4 := S4; refine (HM.out _).mono ?_; rintro e w5 ⟨rfl, hb5⟩; apply St.step (w0 := w) (hb := hb5); (focus (with_reducible repeat (first | exact S4.out | apply St.drewN | apply St.drew))); intro S5; clear hb5 S4; have L5 := S5.out.facts.1; simp only at L5; have e5_11 := St.cell S5.out 0 11 rfl rfl; have e5_12 := St.cell S5.out 0 12 rfl rfl; have e5_13 := St.cell S5.out 0 13 rfl rfl; have e5_14 := St.cell S5.out 0 14 rfl rfl; have e5_15 := St.cell S5.out 0 15 rfl rfl; have e5_16 := St.cell S5.out 0 16 rfl rfl)
        (try dsimp only [])
        refine hK.out _ _ ?_ (fun hHeld => ?_)
        · (try dsimp only); first | exact ⟨e4_11, e4_12, e4_13, e4_14, e4_15, e4_16⟩ | exact ⟨e5_11, e5_12, e5_13, e5_14, e5_15, e5_16⟩ | exact hHeld
        clear hK K
        (try simp only [Act.put, List.setIfInBounds_toArray, List.set_cons_zero, List.set_cons_succ])
        refine wpAnyH_take (i := 5) (oi := ?oi33) (v := ?v33) ?hi33 ?hs33 ?hf33 ?hr33 ?hQ33 ?hy33 ?hS33 ?_
        case hi33 => (simp only [List.getElem?_toArray, List.getElem?_cons_zero, List.getElem?_cons_succ]; rfl)
        case hs33 => kernel_rfl
        case hf33 => kernel_rfl
        case hr33 => kernel_rfl
        case hQ33 => exact fun _ _ _ h => h
        case hS33 => assumption
        case hy33 => (refine Or.inl ⟨by kernel_rfl, ?_⟩; intro w hSw; (try dsimp only at hSw); go_simp; (try with_reducible rfl))
        (try simp only [Act.put, List.setIfInBounds_toArray, List.set_cons_zero, List.set_cons_succ])
        refine wpAnyH_take (i := 6) (oi := ?oi34) (v := ?v34) ?hi34 ?hs34 ?hf34 ?hr34 ?hQ34 ?hy34 ?hS34 ?_
        case hi34 => (simp only [List.getElem?_toArray, List.getElem?_cons_zero, List.getElem?_cons_succ]; rfl)
        case hs34 => kernel_rfl
        case hf34 => kernel_rfl
        case hr34 => kernel_rfl
        case hQ34 => exact fun _ _ _ h => h
        case hS34 => assumption
        case hy34 => (refine Or.inl ⟨by kernel_rfl, ?_⟩; intro w hSw; (try dsimp only at hSw); go_simp; (try with_reducible rfl))
        (try simp only [Act.put, List.setIfInBounds_toArray, List.set_cons_zero, List.set_cons_succ])
        refine wpAnyH_take (i := 7) (oi := ?oi35) (v := ?v35) ?hi35 ?hs35 ?hf35 ?hr35 ?hQ35 ?hy35 ?hS35 ?_
        case hi35 => (simp only [List.getElem?_toArray, List.getElem?_cons_zero, List.getElem?_cons_succ]; rfl)
        case hs35 => kernel_rfl
        case hf35 => kernel_rfl
        case hr35 => kernel_rfl
        case hQ35 => exact fun _ _ _ h => h
        case hS35 => assumption
        case hy35 => (refine Or.inl ⟨by kernel_rfl, ?_⟩; intro w hSw; (try dsimp only at hSw); go_simp; (try with_reducible rfl))
        (try simp only [Act.put, List.setIfInBounds_toArray, List.set_cons_zero, List.set_cons_succ])
        refine wpAnyH_take (i := 8) (oi := ?oi36) (v := ?v36) ?hi36 ?hs36 ?hf36 ?hr36 ?hQ36 ?hy36 ?hS36 ?_
        case hi36 => (simp only [List.getElem?_toArray, List.getElem?_cons_zero, List.getElem?_cons_succ]; rfl)
        case hs36 => kernel_rfl
        case hf36 => kernel_rfl
        case hr36 => kernel_rfl
        case hQ36 => exact fun _ _ _ h => h
        case hS36 => assumption
        case hy36 => (refine Or.inl ⟨by kernel_rfl, ?_⟩; intro w hSw; (try dsimp only at hSw); go_simp; (try with_reducible rfl))
        (try simp only [Act.put, List.setIfInBounds_toArray, List.set_cons_zero, List.set_cons_succ])
        refine wpAnyH_take (i := 9) (oi := ?oi37) (v := ?v37) ?hi37 ?hs37 ?hf37 ?hr37 ?hQ37 ?hy37 ?hS37 ?_
        case hi37 => (simp only [List.getElem?_toArray, List.getElem?_cons_zero, List.getElem?_cons_succ]; rfl)
        case hs37 => kernel_rfl
        case hf37 => kernel_rfl
        case hr37 => kernel_rfl
        case hQ37 => exact fun _ _ _ h => h
        case hS37 => assumption
        case hy37 => (refine Or.inl ⟨by kernel_rfl, ?_⟩; intro w hSw; (try dsimp only at hSw); go_simp; (try with_reducible rfl))
        (try simp only [Act.put, List.setIfInBounds_toArray, List.set_cons_zero, List.set_cons_succ])
        refine wpAnyH_ready (rs := [10]) (by kernel_rfl) (by simp) ?_
        refine AllReadyH.cons (o := ?oi38) ?hi38 (fun K hK => ?_) AllReadyH.nil
        case hi38 => (simp only [List.getElem?_toArray, List.getElem?_cons_zero, List.getElem?_cons_succ]; rfl)
        go_simp
        (go_at_call 27; replace S5 := S5; refine (Big_56 _).mono ?_; rintro e w' ⟨rfl, rfl⟩)
        (try dsimp only [])
        refine hK.out _ _ ?_ (fun hHeld => ?_)
        · (try dsimp only); first | exact ⟨e4_11, e4_12, e4_13, e4_14, e4_15, e4_16⟩ | exact ⟨e5_11, e5_12, e5_13, e5_14, e5_15, e5_16⟩ | exact hHeld
        clear hK K
        (try simp only [Act.put, List.setIfInBounds_toArray, List.set_cons_zero, List.set_cons_succ])
        refine wpAnyH_take (i := 11) (oi := ?oi39) (v := ?v39) ?hi39 ?hs39 ?hf39 ?hr39 ?hQ39 ?hy39 ?hS39 ?_
        case hi39 => (simp only [List.getElem?_toArray, List.getElem?_cons_zero, List.getElem?_cons_succ]; rfl)
        case hs39 => kernel_rfl
        case hf39 => kernel_rfl
        case hr39 => kernel_rfl
        case hQ39 => exact fun _ _ _ h => h
        case hS39 => assumption
        case hy39 => (refine Or.inl ⟨by kernel_rfl, ?_⟩; intro w hSw; (try dsimp only at hSw); go_simp; (try with_reducible rfl))
        (try simp only [Act.put, List.setIfInBounds_toArray, List.set_cons_zero, List.set_cons_succ])
        refine wpAnyH_take (i := 12) (oi := ?oi40) (v := ?v40) ?hi40 ?hs40 ?hf40 ?hr40 ?hQ40 ?hy40 ?hS40 ?_
        case hi40 => (simp only [List.getElem?_toArray, List.getElem?_cons_zero, List.getElem?_cons_succ]; rfl)
        case hs40 => kernel_rfl
        case hf40 => kernel_rfl
        case hr40 => kernel_rfl
        case hQ40 => exact fun _ _ _ h => h
        case hS40 => assumption
        case hy40 => (refine Or.inl ⟨by kernel_rfl, ?_⟩; intro w hSw; (try dsimp only at hSw); go_simp; (try with_reducible rfl))
        (try simp only [Act.put, List.setIfInBounds_toArray, List.set_cons_zero, List.set_cons_succ])
        refine wpAnyH_take (i := 13) (oi := ?oi41) (v := ?v41) ?hi41 ?hs41 ?hf41 ?hr41 ?hQ41 ?hy41 ?hS41 ?_
        case hi41 => (simp only [List.getElem?_toArray, List.getElem?_cons_zero, List.getElem?_cons_succ]; rfl)
        case hs41 => kernel_rfl
        case hf41 => kernel_rfl
        case hr41 => kernel_rfl
        case hQ41 => exact fun _ _ _ h => h
        case hS41 => assumption
        case hy41 => (refine Or.inl ⟨by kernel_rfl, ?_⟩; intro w hSw; (try dsimp only at hSw); go_simp; (try with_reducible rfl))
        (try simp only [Act.put, List.setIfInBounds_toArray, List.set_cons_zero, List.set_cons_succ])
        refine wpAnyH_take (i := 14) (oi := ?oi42) (v := undef) ?hi42 ?hs42 ?hf42 ?hr42 ?hQ42 ?hy42 ?hS42 ?_
        case hi42 => (simp only [List.getElem?_toArray, List.getElem?_cons_zero, List.getElem?_cons_succ]; rfl)
        case hs42 => kernel_rfl
        case hf42 => kernel_rfl
        case hr42 => kernel_rfl
        case hQ42 => exact fun _ _ _ h => h
        case hS42 => assumption
        case hy42 => exact Or.inr ⟨by kernel_rfl, rfl⟩
        (try simp only [Act.put, List.setIfInBounds_toArray, List.set_cons_zero, List.set_cons_succ])
        refine wpAnyH_take (i := 15) (oi := ?oi43) (v := undef) ?hi43 ?hs43 ?hf43 ?hr43 ?hQ43 ?hy43 ?hS43 ?_
        case hi43 => (simp only [List.getElem?_toArray, List.getElem?_cons_zero, List.getElem?_cons_succ]; rfl)
        case hs43 => kernel_rfl
        case hf43 => kernel_rfl
        case hr43 => kernel_rfl
        case hQ43 => exact fun _ _ _ h => h
        case hS43 => assumption
        case hy43 => exact Or.inr ⟨by kernel_rfl, rfl⟩
        (try simp only [Act.put, List.setIfInBounds_toArray, List.set_cons_zero, List.set_cons_succ])
        refine wpAnyH_take (i := 16) (oi := ?oi44) (v := undef) ?hi44 ?hs44 ?hf44 ?hr44 ?hQ44 ?hy44 ?hS44 ?_
        case hi44 => (simp only [List.getElem?_toArray, List.getElem?_cons_zero, List.getElem?_cons_succ]; rfl)
        case hs44 => kernel_rfl
        case hf44 => kernel_rfl
        case hr44 => kernel_rfl
        case hQ44 => exact fun _ _ _ h => h
        case hS44 => assumption
        case hy44 => exact Or.inr ⟨by kernel_rfl, rfl⟩
        (try simp only [Act.put, List.setIfInBounds_toArray, List.set_cons_zero, List.set_cons_succ])
        refine wpAnyH_take (i := 17) (oi := ?oi45) (v := undef) ?hi45 ?hs45 ?hf45 ?hr45 ?hQ45 ?hy45 ?hS45 ?_
        case hi45 => (simp only [List.getElem?_toArray, List.getElem?_cons_zero, List.getElem?_cons_succ]; rfl)
        case hs45 => kernel_rfl
        case hf45 => kernel_rfl
        case hr45 => kernel_rfl
        case hQ45 => exact fun _ _ _ h => h
        case hS45 => assumption
        case hy45 => exact Or.inr ⟨by kernel_rfl, rfl⟩
        (try simp only [Act.put, List.setIfInBounds_toArray, List.set_cons_zero, List.set_cons_succ])
        refine wpAnyH_take (i := 18) (oi := ?oi46) (v := undef) ?hi46 ?hs46 ?hf46 ?hr46 ?hQ46 ?hy46 ?hS46 ?_
        case hi46 => (simp only [List.getElem?_toArray, List.getElem?_cons_zero, List.getElem?_cons_succ]; rfl)
        case hs46 => kernel_rfl
        case hf46 => kernel_rfl
        case hr46 => kernel_rfl
        case hQ46 => exact fun _ _ _ h => h
        case hS46 => assumption
        case hy46 => exact Or.inr ⟨by kernel_rfl, rfl⟩
        (try simp only [Act.put, List.setIfInBounds_toArray, List.set_cons_zero, List.set_cons_succ])
        refine wpAnyH_take (i := 19) (oi := ?oi47) (v := ?v47) ?hi47 ?hs47 ?hf47 ?hr47 ?hQ47 ?hy47 ?hS47 ?_
        case hi47 => (simp only [List.getElem?_toArray, List.getElem?_cons_zero, List.getElem?_cons_succ]; rfl)
        case hs47 => kernel_rfl
        case hf47 => kernel_rfl
        case hr47 => kernel_rfl
        case hQ47 => exact fun _ _ _ h => h
        case hS47 => assumption
        case hy47 => (refine Or.inl ⟨by kernel_rfl, ?_⟩; intro w hSw; (try dsimp only at hSw); go_simp; (try with_reducible rfl))
        (try simp only [Act.put, List.setIfInBounds_toArray, List.set_cons_zero, List.set_cons_succ])
        refine wpAnyH_take (i := 20) (oi := ?oi48) (v := ?v48) ?hi48 ?hs48 ?hf48 ?hr48 ?hQ48 ?hy48 ?hS48 ?_
        case hi48 => (simp only [List.getElem?_toArray, List.getElem?_cons_zero, List.getElem?_cons_succ]; rfl)
        case hs48 => kernel_rfl
        case hf48 => kernel_rfl
        case hr48 => kernel_rfl
        case hQ48 => exact fun _ _ _ h => h
        case hS48 => assumption
        case hy48 => (refine Or.inl ⟨by kernel_rfl, ?_⟩; intro w hSw; (try dsimp only at hSw); go_simp; (try with_reducible rfl))
        (try simp only [Act.put, List.setIfInBounds_toArray, List.set_cons_zero, List.set_cons_succ])
        refine wpAnyH_take (i := 21) (oi := ?oi49) (v := undef) ?hi49 ?hs49 ?hf49 ?hr49 ?hQ49 ?hy49 ?hS49 ?_
        case hi49 => (simp only [List.getElem?_toArray, List.getElem?_cons_zero, List.getElem?_cons_succ]; rfl)
        case hs49 => kernel_rfl
        case hf49 => kernel_rfl
        case hr49 => kernel_rfl
        case hQ49 => exact fun _ _ _ h => h
        case hS49 => assumption
        case hy49 => exact Or.inr ⟨by kernel_rfl, rfl⟩
        (try simp only [Act.put, List.setIfInBounds_toArray, List.set_cons_zero, List.set_cons_succ])
        refine wpAnyH_take (i := 22) (oi := ?oi50) (v := undef) ?hi50 ?hs50 ?hf50 ?hr50 ?hQ50 ?hy50 ?hS50 ?_
        case hi50 => (simp only [List.getElem?_toArray, List.getElem?_cons_zero, List.getElem?_cons_succ]; rfl)
        case hs50 => kernel_rfl
        case hf50 => kernel_rfl
        case hr50 => kernel_rfl
        case hQ50 => exact fun _ _ _ h => h
        case hS50 => assumption
        case hy50 => exact Or.inr ⟨by kernel_rfl, rfl⟩
        (try simp only [Act.put, List.setIfInBounds_toArray, List.set_cons_zero, List.set_cons_succ])
        refine wpAnyH_take (i := 23) (oi := ?oi51) (v := undef) ?hi51 ?hs51 ?hf51 ?hr51 ?hQ51 ?hy51 ?hS51 ?_
        case hi51 => (simp only [List.getElem?_toArray, List.getElem?_cons_zero, List.getElem?_cons_succ]; rfl)
        case hs51 => kernel_rfl
        case hf51 => kernel_rfl
        case hr51 => kernel_rfl
        case hQ51 => exact fun _ _ _ h => h
        case hS51 => assumption
        case hy51 => exact Or.inr ⟨by kernel_rfl, rfl⟩
        (try simp only [Act.put, List.setIfInBounds_toArray, List.set_cons_zero, List.set_cons_succ])
        refine wpAnyH_take (i := 24) (oi := ?oi52) (v := undef) ?hi52 ?hs52 ?hf52 ?hr52 ?hQ52 ?hy52 ?hS52 ?_
        case hi52 => (simp only [List.getElem?_toArray, List.getElem?_cons_zero, List.getElem?_cons_succ]; rfl)
        case hs52 => kernel_rfl
        case hf52 => kernel_rfl
        case hr52 => kernel_rfl
        case hQ52 => exact fun _ _ _ h => h
        case hS52 => assumption
        case hy52 => exact Or.inr ⟨by kernel_rfl, rfl⟩
        (try simp only [Act.put, List.setIfInBounds_toArray, List.set_cons_zero, List.set_cons_succ])
        refine wpAnyH_take (i := 25) (oi := ?oi53) (v := undef) ?hi53 ?hs53 ?hf53 ?hr53 ?hQ53 ?hy53 ?hS53 ?_
        case hi53 => (simp only [List.getElem?_toArray, List.getElem?_cons_zero, List.getElem?_cons_succ]; rfl)
        case hs53 => kernel_rfl
        case hf53 => kernel_rfl
        case hr53 => kernel_rfl
        case hQ53 => exact fun _ _ _ h => h
        case hS53 => assumption
        case hy53 => exact Or.inr ⟨by kernel_rfl, rfl⟩
        (try simp only [Act.put, List.setIfInBounds_toArray, List.set_cons_zero, List.set_cons_succ])
        refine wpAnyH_take (i := 26) (oi := ?oi54) (v := ?v54) ?hi54 ?hs54 ?hf54 ?hr54 ?hQ54 ?hy54 ?hS54 ?_
        case hi54 => (simp only [List.getElem?_toArray, List.getElem?_cons_zero, List.getElem?_cons_succ]; rfl)
        case hs54 => kernel_rfl
        case hf54 => kernel_rfl
        case hr54 => kernel_rfl
        case hQ54 => exact fun _ _ _ h => h
        case hS54 => assumption
        case hy54 => (refine Or.inl ⟨by kernel_rfl, ?_⟩; intro w hSw; (try dsimp only at hSw); go_simp; (try with_reducible rfl))
        (try simp only [Act.put, List.setIfInBounds_toArray, List.set_cons_zero, List.set_cons_succ])
        refine wpAnyH_done (by kernel_rfl) ?_ _
        all_goals (go_wp2; (go_ret; exact ⟨by rw [← first_stop hf hr]; rfl, by repeat (first | exact S5.out.bl | refine bl_drewN ?_ _ | refine bl_drew ?_)⟩))
      cases a15 : decide (72057594037927936 < c 15)
      rotate_left
      · have hr : ruleB c 5 = false := by rw [h5]; simp at a14 a15; simp; omega
        go_wp2
        refine wp_region_held_drew (S := (fun w' => w'.cell? ⟨w.heap.size, 11, none⟩ = some (.int .i64 (c 11)) ∧ w'.cell? ⟨w.heap.size, 12, none⟩ = some (.int .i64 (c 12)) ∧ w'.cell? ⟨w.heap.size, 13, none⟩ = some (.int .i64 (c 13)) ∧ w'.cell? ⟨w.heap.size, 14, none⟩ = some (.int .i64 (c 14)) ∧ w'.cell? ⟨w.heap.size, 15, none⟩ = some (.int .i64 (c 15)) ∧ w'.cell? ⟨w.heap.size, 16, none⟩ = some (.int .i64 (c 16)))) (by kernel_rfl) ?_ (fun hHeld => ?_)
        · (try dsimp only); first | exact ⟨e4_11, e4_12, e4_13, e4_14, e4_15, e4_16⟩ | exact ⟨e5_11, e5_12, e5_13, e5_14, e5_15, e5_16⟩ | exact hHeld
        refine wpAnyH_take (i := 0) (oi := ?oi55) (v := ?v55) ?hi55 ?hs55 ?hf55 ?hr55 ?hQ55 ?hy55 ?hS55 ?_
        case hi55 => (simp only [List.getElem?_toArray, List.getElem?_cons_zero, List.getElem?_cons_succ]; rfl)
        case hs55 => kernel_rfl
        case hf55 => kernel_rfl
        case hr55 => kernel_rfl
        case hQ55 => exact fun _ _ _ h => h
        case hS55 => assumption
        case hy55 => (refine Or.inl ⟨by kernel_rfl, ?_⟩; intro w hSw; (try dsimp only at hSw); go_simp; (try with_reducible rfl))
        (try simp only [Act.put, List.setIfInBounds_toArray, List.set_cons_zero, List.set_cons_succ])
        refine wpAnyH_take (i := 1) (oi := ?oi56) (v := ?v56) ?hi56 ?hs56 ?hf56 ?hr56 ?hQ56 ?hy56 ?hS56 ?_
        case hi56 => (simp only [List.getElem?_toArray, List.getElem?_cons_zero, List.getElem?_cons_succ]; rfl)
        case hs56 => kernel_rfl
        case hf56 => kernel_rfl
        case hr56 => kernel_rfl
        case hQ56 => exact fun _ _ _ h => h
        case hS56 => assumption
        case hy56 => (refine Or.inl ⟨by kernel_rfl, ?_⟩; intro w hSw; (try dsimp only at hSw); go_simp; (try with_reducible rfl))
        (try simp only [Act.put, List.setIfInBounds_toArray, List.set_cons_zero, List.set_cons_succ])
        refine wpAnyH_take (i := 2) (oi := ?oi57) (v := ?v57) ?hi57 ?hs57 ?hf57 ?hr57 ?hQ57 ?hy57 ?hS57 ?_
        case hi57 => (simp only [List.getElem?_toArray, List.getElem?_cons_zero, List.getElem?_cons_succ]; rfl)
        case hs57 => kernel_rfl
        case hf57 => kernel_rfl
        case hr57 => kernel_rfl
        case hQ57 => exact fun _ _ _ h => h
        case hS57 => assumption
        case hy57 => (refine Or.inl ⟨by kernel_rfl, ?_⟩; intro w hSw; (try dsimp only at hSw); go_simp; (try with_reducible rfl))
        (try simp only [Act.put, List.setIfInBounds_toArray, List.set_cons_zero, List.set_cons_succ])
        refine wpAnyH_take (i := 3) (oi := ?oi58) (v := ?v58) ?hi58 ?hs58 ?hf58 ?hr58 ?hQ58 ?hy58 ?hS58 ?_
        case hi58 => (simp only [List.getElem?_toArray, List.getElem?_cons_zero, List.getElem?_cons_succ]; rfl)
        case hs58 => kernel_rfl
        case hf58 => kernel_rfl
        case hr58 => kernel_rfl
        case hQ58 => exact fun _ _ _ h => h
        case hS58 => assumption
        case hy58 => (refine Or.inl ⟨by kernel_rfl, ?_⟩; intro w hSw; (try dsimp only at hSw); go_simp; (try with_reducible rfl))
        (try simp only [Act.put, List.setIfInBounds_toArray, List.set_cons_zero, List.set_cons_succ])
        refine wpAnyH_ready (rs := [4]) (by kernel_rfl) (by simp) ?_
        refine AllReadyH.cons (o := ?oi59) ?hi59 (fun K hK => ?_) AllReadyH.nil
        case hi59 => (simp only [List.getElem?_toArray, List.getElem?_cons_zero, List.getElem?_cons_succ]; rfl)
        go_simp
        (go_at_call 51; replace S4 := S4; refine (HM.out _).mono ?_; rintro e w5 ⟨rfl, hb5⟩; apply St.step (w0 := w) (hb := hb5); (focus (with_reducible repeat (first | exact S4.out | apply St.drewN | apply St.drew))); intro S5; clear hb5 S4; have L5 := S5.out.facts.1; simp only at L5; have e5_11 := St.cell S5.out 0 11 rfl rfl; have e5_12 := St.cell S5.out 0 12 rfl rfl; have e5_13 := St.cell S5.out 0 13 rfl rfl; have e5_14 := St.cell S5.out 0 14 rfl rfl; have e5_15 := St.cell S5.out 0 15 rfl rfl; have e5_16 := St.cell S5.out 0 16 rfl rfl)
        (try dsimp only [])
        refine hK.out _ _ ?_ (fun hHeld => ?_)
        · (try dsimp only); first | exact ⟨e4_11, e4_12, e4_13, e4_14, e4_15, e4_16⟩ | exact ⟨e5_11, e5_12, e5_13, e5_14, e5_15, e5_16⟩ | exact hHeld
        clear hK K
        (try simp only [Act.put, List.setIfInBounds_toArray, List.set_cons_zero, List.set_cons_succ])
        refine wpAnyH_take (i := 5) (oi := ?oi60) (v := ?v60) ?hi60 ?hs60 ?hf60 ?hr60 ?hQ60 ?hy60 ?hS60 ?_
        case hi60 => (simp only [List.getElem?_toArray, List.getElem?_cons_zero, List.getElem?_cons_succ]; rfl)
        case hs60 => kernel_rfl
        case hf60 => kernel_rfl
        case hr60 => kernel_rfl
        case hQ60 => exact fun _ _ _ h => h
        case hS60 => assumption
        case hy60 => (refine Or.inl ⟨by kernel_rfl, ?_⟩; intro w hSw; (try dsimp only at hSw); go_simp; (try with_reducible rfl))
        (try simp only [Act.put, List.setIfInBounds_toArray, List.set_cons_zero, List.set_cons_succ])
        refine wpAnyH_take (i := 6) (oi := ?oi61) (v := ?v61) ?hi61 ?hs61 ?hf61 ?hr61 ?hQ61 ?hy61 ?hS61 ?_
        case hi61 => (simp only [List.getElem?_toArray, List.getElem?_cons_zero, List.getElem?_cons_succ]; rfl)
        case hs61 => kernel_rfl
        case hf61 => kernel_rfl
        case hr61 => kernel_rfl
        case hQ61 => exact fun _ _ _ h => h
        case hS61 => assumption
        case hy61 => (refine Or.inl ⟨by kernel_rfl, ?_⟩; intro w hSw; (try dsimp only at hSw); go_simp; (try with_reducible rfl))
        (try simp only [Act.put, List.setIfInBounds_toArray, List.set_cons_zero, List.set_cons_succ])
        refine wpAnyH_take (i := 7) (oi := ?oi62) (v := ?v62) ?hi62 ?hs62 ?hf62 ?hr62 ?hQ62 ?hy62 ?hS62 ?_
        case hi62 => (simp only [List.getElem?_toArray, List.getElem?_cons_zero, List.getElem?_cons_succ]; rfl)
        case hs62 => kernel_rfl
        case hf62 => kernel_rfl
        case hr62 => kernel_rfl
        case hQ62 => exact fun _ _ _ h => h
        case hS62 => assumption
        case hy62 => (refine Or.inl ⟨by kernel_rfl, ?_⟩; intro w hSw; (try dsimp only at hSw); go_simp; (try with_reducible rfl))
        (try simp only [Act.put, List.setIfInBounds_toArray, List.set_cons_zero, List.set_cons_succ])
        refine wpAnyH_take (i := 8) (oi := ?oi63) (v := ?v63) ?hi63 ?hs63 ?hf63 ?hr63 ?hQ63 ?hy63 ?hS63 ?_
        case hi63 => (simp only [List.getElem?_toArray, List.getElem?_cons_zero, List.getElem?_cons_succ]; rfl)
        case hs63 => kernel_rfl
        case hf63 => kernel_rfl
        case hr63 => kernel_rfl
        case hQ63 => exact fun _ _ _ h => h
        case hS63 => assumption
        case hy63 => (refine Or.inl ⟨by kernel_rfl, ?_⟩; intro w hSw; (try dsimp only at hSw); go_simp; (try with_reducible rfl))
        (try simp only [Act.put, List.setIfInBounds_toArray, List.set_cons_zero, List.set_cons_succ])
        refine wpAnyH_take (i := 9) (oi := ?oi64) (v := ?v64) ?hi64 ?hs64 ?hf64 ?hr64 ?hQ64 ?hy64 ?hS64 ?_
        case hi64 => (simp only [List.getElem?_toArray, List.getElem?_cons_zero, List.getElem?_cons_succ]; rfl)
        case hs64 => kernel_rfl
        case hf64 => kernel_rfl
        case hr64 => kernel_rfl
        case hQ64 => exact fun _ _ _ h => h
        case hS64 => assumption
        case hy64 => (refine Or.inl ⟨by kernel_rfl, ?_⟩; intro w hSw; (try dsimp only at hSw); go_simp; (try with_reducible rfl))
        (try simp only [Act.put, List.setIfInBounds_toArray, List.set_cons_zero, List.set_cons_succ])
        refine wpAnyH_ready (rs := [10]) (by kernel_rfl) (by simp) ?_
        refine AllReadyH.cons (o := ?oi65) ?hi65 (fun K hK => ?_) AllReadyH.nil
        case hi65 => (simp only [List.getElem?_toArray, List.getElem?_cons_zero, List.getElem?_cons_succ]; rfl)
        go_simp
        (go_at_call 27; replace S5 := S5; refine (Big_56 _).mono ?_; rintro e w' ⟨rfl, rfl⟩)
        (try dsimp only [])
        refine hK.out _ _ ?_ (fun hHeld => ?_)
        · (try dsimp only); first | exact ⟨e4_11, e4_12, e4_13, e4_14, e4_15, e4_16⟩ | exact ⟨e5_11, e5_12, e5_13, e5_14, e5_15, e5_16⟩ | exact hHeld
        clear hK K
        (try simp only [Act.put, List.setIfInBounds_toArray, List.set_cons_zero, List.set_cons_succ])
        refine wpAnyH_take (i := 11) (oi := ?oi66) (v := ?v66) ?hi66 ?hs66 ?hf66 ?hr66 ?hQ66 ?hy66 ?hS66 ?_
        case hi66 => (simp only [List.getElem?_toArray, List.getElem?_cons_zero, List.getElem?_cons_succ]; rfl)
        case hs66 => kernel_rfl
        case hf66 => kernel_rfl
        case hr66 => kernel_rfl
        case hQ66 => exact fun _ _ _ h => h
        case hS66 => assumption
        case hy66 => (refine Or.inl ⟨by kernel_rfl, ?_⟩; intro w hSw; (try dsimp only at hSw); go_simp; (try with_reducible rfl))
        (try simp only [Act.put, List.setIfInBounds_toArray, List.set_cons_zero, List.set_cons_succ])
        refine wpAnyH_take (i := 12) (oi := ?oi67) (v := ?v67) ?hi67 ?hs67 ?hf67 ?hr67 ?hQ67 ?hy67 ?hS67 ?_
        case hi67 => (simp only [List.getElem?_toArray, List.getElem?_cons_zero, List.getElem?_cons_succ]; rfl)
        case hs67 => kernel_rfl
        case hf67 => kernel_rfl
        case hr67 => kernel_rfl
        case hQ67 => exact fun _ _ _ h => h
        case hS67 => assumption
        case hy67 => (refine Or.inl ⟨by kernel_rfl, ?_⟩; intro w hSw; (try dsimp only at hSw); go_simp; (try with_reducible rfl))
        (try simp only [Act.put, List.setIfInBounds_toArray, List.set_cons_zero, List.set_cons_succ])
        refine wpAnyH_take (i := 13) (oi := ?oi68) (v := ?v68) ?hi68 ?hs68 ?hf68 ?hr68 ?hQ68 ?hy68 ?hS68 ?_
        case hi68 => (simp only [List.getElem?_toArray, List.getElem?_cons_zero, List.getElem?_cons_succ]; rfl)
        case hs68 => kernel_rfl
        case hf68 => kernel_rfl
        case hr68 => kernel_rfl
        case hQ68 => exact fun _ _ _ h => h
        case hS68 => assumption
        case hy68 => (refine Or.inl ⟨by kernel_rfl, ?_⟩; intro w hSw; (try dsimp only at hSw); go_simp; (try with_reducible rfl))
        (try simp only [Act.put, List.setIfInBounds_toArray, List.set_cons_zero, List.set_cons_succ])
        refine wpAnyH_take (i := 14) (oi := ?oi69) (v := ?v69) ?hi69 ?hs69 ?hf69 ?hr69 ?hQ69 ?hy69 ?hS69 ?_
        case hi69 => (simp only [List.getElem?_toArray, List.getElem?_cons_zero, List.getElem?_cons_succ]; rfl)
        case hs69 => kernel_rfl
        case hf69 => kernel_rfl
        case hr69 => kernel_rfl
        case hQ69 => exact fun _ _ _ h => h
        case hS69 => assumption
        case hy69 => (refine Or.inl ⟨by kernel_rfl, ?_⟩; intro w hSw; (try dsimp only at hSw); go_simp; (try with_reducible rfl))
        (try simp only [Act.put, List.setIfInBounds_toArray, List.set_cons_zero, List.set_cons_succ])
        refine wpAnyH_take (i := 15) (oi := ?oi70) (v := ?v70) ?hi70 ?hs70 ?hf70 ?hr70 ?hQ70 ?hy70 ?hS70 ?_
        case hi70 => (simp only [List.getElem?_toArray, List.getElem?_cons_zero, List.getElem?_cons_succ]; rfl)
        case hs70 => kernel_rfl
        case hf70 => kernel_rfl
        case hr70 => kernel_rfl
        case hQ70 => exact fun _ _ _ h => h
        case hS70 => assumption
        case hy70 => (refine Or.inl ⟨by kernel_rfl, ?_⟩; intro w hSw; (try dsimp only at hSw); go_simp; (try with_reducible rfl))
        (try simp only [Act.put, List.setIfInBounds_toArray, List.set_cons_zero, List.set_cons_succ])
        refine wpAnyH_take (i := 16) (oi := ?oi71) (v := ?v71) ?hi71 ?hs71 ?hf71 ?hr71 ?hQ71 ?hy71 ?hS71 ?_
        case hi71 => (simp only [List.getElem?_toArray, List.getElem?_cons_zero, List.getElem?_cons_succ]; rfl)
        case hs71 => kernel_rfl
        case hf71 => kernel_rfl
        case hr71 => kernel_rfl
        case hQ71 => exact fun _ _ _ h => h
        case hS71 => assumption
        case hy71 => (refine Or.inl ⟨by kernel_rfl, ?_⟩; intro w hSw; (try dsimp only at hSw); go_simp; (try with_reducible rfl))
        (try simp only [Act.put, List.setIfInBounds_toArray, List.set_cons_zero, List.set_cons_succ])
        refine wpAnyH_ready (rs := [17]) (by kernel_rfl) (by simp) ?_
        refine AllReadyH.cons (o := ?oi72) ?hi72 (fun K hK => ?_) AllReadyH.nil
        case hi72 => (simp only [List.getElem?_toArray, List.getElem?_cons_zero, List.getElem?_cons_succ]; rfl)
        go_simp
        (go_at_call 27; replace S5 := S5; refine (Big_56 _).mono ?_; rintro e w' ⟨rfl, rfl⟩)
        (try dsimp only [])
        refine hK.out _ _ ?_ (fun hHeld => ?_)
        · (try dsimp only); first | exact ⟨e4_11, e4_12, e4_13, e4_14, e4_15, e4_16⟩ | exact ⟨e5_11, e5_12, e5_13, e5_14, e5_15, e5_16⟩ | exact hHeld
        clear hK K
        (try simp only [Act.put, List.setIfInBounds_toArray, List.set_cons_zero, List.set_cons_succ])
        refine wpAnyH_take (i := 18) (oi := ?oi73) (v := ?v73) ?hi73 ?hs73 ?hf73 ?hr73 ?hQ73 ?hy73 ?hS73 ?_
        case hi73 => (simp only [List.getElem?_toArray, List.getElem?_cons_zero, List.getElem?_cons_succ]; rfl)
        case hs73 => kernel_rfl
        case hf73 => kernel_rfl
        case hr73 => kernel_rfl
        case hQ73 => exact fun _ _ _ h => h
        case hS73 => assumption
        case hy73 => (refine Or.inl ⟨by kernel_rfl, ?_⟩; intro w hSw; (try dsimp only at hSw); go_simp; (try with_reducible rfl))
        (try simp only [Act.put, List.setIfInBounds_toArray, List.set_cons_zero, List.set_cons_succ])
        refine wpAnyH_take (i := 19) (oi := ?oi74) (v := ?v74) ?hi74 ?hs74 ?hf74 ?hr74 ?hQ74 ?hy74 ?hS74 ?_
        case hi74 => (simp only [List.getElem?_toArray, List.getElem?_cons_zero, List.getElem?_cons_succ]; rfl)
        case hs74 => kernel_rfl
        case hf74 => kernel_rfl
        case hr74 => kernel_rfl
        case hQ74 => exact fun _ _ _ h => h
        case hS74 => assumption
        case hy74 => (refine Or.inl ⟨by kernel_rfl, ?_⟩; intro w hSw; (try dsimp only at hSw); go_simp; (try with_reducible rfl))
        (try simp only [Act.put, List.setIfInBounds_toArray, List.set_cons_zero, List.set_cons_succ])
        refine wpAnyH_take (i := 20) (oi := ?oi75) (v := ?v75) ?hi75 ?hs75 ?hf75 ?hr75 ?hQ75 ?hy75 ?hS75 ?_
        case hi75 => (simp only [List.getElem?_toArray, List.getElem?_cons_zero, List.getElem?_cons_succ]; rfl)
        case hs75 => kernel_rfl
        case hf75 => kernel_rfl
        case hr75 => kernel_rfl
        case hQ75 => exact fun _ _ _ h => h
        case hS75 => assumption
        case hy75 => (refine Or.inl ⟨by kernel_rfl, ?_⟩; intro w hSw; (try dsimp only at hSw); go_simp; (try with_reducible rfl))
        (try simp only [Act.put, List.setIfInBounds_toArray, List.set_cons_zero, List.set_cons_succ])
        refine wpAnyH_take (i := 21) (oi := ?oi76) (v := undef) ?hi76 ?hs76 ?hf76 ?hr76 ?hQ76 ?hy76 ?hS76 ?_
        case hi76 => (simp only [List.getElem?_toArray, List.getElem?_cons_zero, List.getElem?_cons_succ]; rfl)
        case hs76 => kernel_rfl
        case hf76 => kernel_rfl
        case hr76 => kernel_rfl
        case hQ76 => exact fun _ _ _ h => h
        case hS76 => assumption
        case hy76 => exact Or.inr ⟨by kernel_rfl, rfl⟩
        (try simp only [Act.put, List.setIfInBounds_toArray, List.set_cons_zero, List.set_cons_succ])
        refine wpAnyH_take (i := 22) (oi := ?oi77) (v := undef) ?hi77 ?hs77 ?hf77 ?hr77 ?hQ77 ?hy77 ?hS77 ?_
        case hi77 => (simp only [List.getElem?_toArray, List.getElem?_cons_zero, List.getElem?_cons_succ]; rfl)
        case hs77 => kernel_rfl
        case hf77 => kernel_rfl
        case hr77 => kernel_rfl
        case hQ77 => exact fun _ _ _ h => h
        case hS77 => assumption
        case hy77 => exact Or.inr ⟨by kernel_rfl, rfl⟩
        (try simp only [Act.put, List.setIfInBounds_toArray, List.set_cons_zero, List.set_cons_succ])
        refine wpAnyH_take (i := 23) (oi := ?oi78) (v := undef) ?hi78 ?hs78 ?hf78 ?hr78 ?hQ78 ?hy78 ?hS78 ?_
        case hi78 => (simp only [List.getElem?_toArray, List.getElem?_cons_zero, List.getElem?_cons_succ]; rfl)
        case hs78 => kernel_rfl
        case hf78 => kernel_rfl
        case hr78 => kernel_rfl
        case hQ78 => exact fun _ _ _ h => h
        case hS78 => assumption
        case hy78 => exact Or.inr ⟨by kernel_rfl, rfl⟩
        (try simp only [Act.put, List.setIfInBounds_toArray, List.set_cons_zero, List.set_cons_succ])
        refine wpAnyH_take (i := 24) (oi := ?oi79) (v := undef) ?hi79 ?hs79 ?hf79 ?hr79 ?hQ79 ?hy79 ?hS79 ?_
        case hi79 => (simp only [List.getElem?_toArray, List.getElem?_cons_zero, List.getElem?_cons_succ]; rfl)
        case hs79 => kernel_rfl
        case hf79 => kernel_rfl
        case hr79 => kernel_rfl
        case hQ79 => exact fun _ _ _ h => h
        case hS79 => assumption
        case hy79 => exact Or.inr ⟨by kernel_rfl, rfl⟩
        (try simp only [Act.put, List.setIfInBounds_toArray, List.set_cons_zero, List.set_cons_succ])
        refine wpAnyH_take (i := 25) (oi := ?oi80) (v := undef) ?hi80 ?hs80 ?hf80 ?hr80 ?hQ80 ?hy80 ?hS80 ?_
        case hi80 => (simp only [List.getElem?_toArray, List.getElem?_cons_zero, List.getElem?_cons_succ]; rfl)
        case hs80 => kernel_rfl
        case hf80 => kernel_rfl
        case hr80 => kernel_rfl
        case hQ80 => exact fun _ _ _ h => h
        case hS80 => assumption
        case hy80 => exact Or.inr ⟨by kernel_rfl, rfl⟩
        (try simp only [Act.put, List.setIfInBounds_toArray, List.set_cons_zero, List.set_cons_succ])
        refine wpAnyH_take (i := 26) (oi := ?oi81) (v := ?v81) ?hi81 ?hs81 ?hf81 ?hr81 ?hQ81 ?hy81 ?hS81 ?_
        case hi81 => (simp only [List.getElem?_toArray, List.getElem?_cons_zero, List.getElem?_cons_succ]; rfl)
        case hs81 => kernel_rfl
        case hf81 => kernel_rfl
        case hr81 => kernel_rfl
        case hQ81 => exact fun _ _ _ h => h
        case hS81 => assumption
        case hy81 => (refine Or.inl ⟨by kernel_rfl, ?_⟩; intro w hSw; (try dsimp only at hSw); go_simp; (try with_reducible rfl))
        (try simp only [Act.put, List.setIfInBounds_toArray, List.set_cons_zero, List.set_cons_succ])
        refine wpAnyH_done (by kernel_rfl) ?_ _
        all_goals (go_wp2; (go_ret; exact ⟨by rw [← first_stop hf hr]; rfl, by repeat (first | exact S5.out.bl | refine bl_drewN ?_ _ | refine bl_drew ?_)⟩))
      cases a16 : decide (72057594037927936 < c 16)
      rotate_left
      · have hr : ruleB c 5 = false := by rw [h5]; simp at a14 a15 a16; simp; omega
        go_wp2
        refine wp_region_held_drew (S := (fun w' => w'.cell? ⟨w.heap.size, 11, none⟩ = some (.int .i64 (c 11)) ∧ w'.cell? ⟨w.heap.size, 12, none⟩ = some (.int .i64 (c 12)) ∧ w'.cell? ⟨w.heap.size, 13, none⟩ = some (.int .i64 (c 13)) ∧ w'.cell? ⟨w.heap.size, 14, none⟩ = some (.int .i64 (c 14)) ∧ w'.cell? ⟨w.heap.size, 15, none⟩ = some (.int .i64 (c 15)) ∧ w'.cell? ⟨w.heap.size, 16, none⟩ = some (.int .i64 (c 16)))) (by kernel_rfl) ?_ (fun hHeld => ?_)
        · (try dsimp only); first | exact ⟨e4_11, e4_12, e4_13, e4_14, e4_15, e4_16⟩ | exact ⟨e5_11, e5_12, e5_13, e5_14, e5_15, e5_16⟩ | exact hHeld
        refine wpAnyH_take (i := 0) (oi := ?oi82) (v := ?v82) ?hi82 ?hs82 ?hf82 ?hr82 ?hQ82 ?hy82 ?hS82 ?_
        case hi82 => (simp only [List.getElem?_toArray, List.getElem?_cons_zero, List.getElem?_cons_succ]; rfl)
        case hs82 => kernel_rfl
        case hf82 => kernel_rfl
        case hr82 => kernel_rfl
        case hQ82 => exact fun _ _ _ h => h
        case hS82 => assumption
        case hy82 => (refine Or.inl ⟨by kernel_rfl, ?_⟩; intro w hSw; (try dsimp only at hSw); go_simp; (try with_reducible rfl))
        (try simp only [Act.put, List.setIfInBounds_toArray, List.set_cons_zero, List.set_cons_succ])
        refine wpAnyH_take (i := 1) (oi := ?oi83) (v := ?v83) ?hi83 ?hs83 ?hf83 ?hr83 ?hQ83 ?hy83 ?hS83 ?_
        case hi83 => (simp only [List.getElem?_toArray, List.getElem?_cons_zero, List.getElem?_cons_succ]; rfl)
        case hs83 => kernel_rfl
        case hf83 => kernel_rfl
        case hr83 => kernel_rfl
        case hQ83 => exact fun _ _ _ h => h
        case hS83 => assumption
        case hy83 => (refine Or.inl ⟨by kernel_rfl, ?_⟩; intro w hSw; (try dsimp only at hSw); go_simp; (try with_reducible rfl))
        (try simp only [Act.put, List.setIfInBounds_toArray, List.set_cons_zero, List.set_cons_succ])
        refine wpAnyH_take (i := 2) (oi := ?oi84) (v := ?v84) ?hi84 ?hs84 ?hf84 ?hr84 ?hQ84 ?hy84 ?hS84 ?_
        case hi84 => (simp only [List.getElem?_toArray, List.getElem?_cons_zero, List.getElem?_cons_succ]; rfl)
        case hs84 => kernel_rfl
        case hf84 => kernel_rfl
        case hr84 => kernel_rfl
        case hQ84 => exact fun _ _ _ h => h
        case hS84 => assumption
        case hy84 => (refine Or.inl ⟨by kernel_rfl, ?_⟩; intro w hSw; (try dsimp only at hSw); go_simp; (try with_reducible rfl))
        (try simp only [Act.put, List.setIfInBounds_toArray, List.set_cons_zero, List.set_cons_succ])
        refine wpAnyH_take (i := 3) (oi := ?oi85) (v := ?v85) ?hi85 ?hs85 ?hf85 ?hr85 ?hQ85 ?hy85 ?hS85 ?_
        case hi85 => (simp only [List.getElem?_toArray, List.getElem?_cons_zero, List.getElem?_cons_succ]; rfl)
        case hs85 => kernel_rfl
        case hf85 => kernel_rfl
        case hr85 => kernel_rfl
        case hQ85 => exact fun _ _ _ h => h
        case hS85 => assumption
        case hy85 => (refine Or.inl ⟨by kernel_rfl, ?_⟩; intro w hSw; (try dsimp only at hSw); go_simp; (try with_reducible rfl))
        (try simp only [Act.put, List.setIfInBounds_toArray, List.set_cons_zero, List.set_cons_succ])
        refine wpAnyH_ready (rs := [4]) (by kernel_rfl) (by simp) ?_
        refine AllReadyH.cons (o := ?oi86) ?hi86 (fun K hK => ?_) AllReadyH.nil
        case hi86 => (simp only [List.getElem?_toArray, List.getElem?_cons_zero, List.getElem?_cons_succ]; rfl)
        go_simp
        (go_at_call 51; replace S4 := S4; refine (HM.out _).mono ?_; rintro e w5 ⟨rfl, hb5⟩; apply St.step (w0 := w) (hb := hb5); (focus (with_reducible repeat (first | exact S4.out | apply St.drewN | apply St.drew))); intro S5; clear hb5 S4; have L5 := S5.out.facts.1; simp only at L5; have e5_11 := St.cell S5.out 0 11 rfl rfl; have e5_12 := St.cell S5.out 0 12 rfl rfl; have e5_13 := St.cell S5.out 0 13 rfl rfl; have e5_14 := St.cell S5.out 0 14 rfl rfl; have e5_15 := St.cell S5.out 0 15 rfl rfl; have e5_16 := St.cell S5.out 0 16 rfl rfl)
        (try dsimp only [])
        refine hK.out _ _ ?_ (fun hHeld => ?_)
        · (try dsimp only); first | exact ⟨e4_11, e4_12, e4_13, e4_14, e4_15, e4_16⟩ | exact ⟨e5_11, e5_12, e5_13, e5_14, e5_15, e5_16⟩ | exact hHeld
        clear hK K
        (try simp only [Act.put, List.setIfInBounds_toArray, List.set_cons_zero, List.set_cons_succ])
        refine wpAnyH_take (i := 5) (oi := ?oi87) (v := ?v87) ?hi87 ?hs87 ?hf87 ?hr87 ?hQ87 ?hy87 ?hS87 ?_
        case hi87 => (simp only [List.getElem?_toArray, List.getElem?_cons_zero, List.getElem?_cons_succ]; rfl)
        case hs87 => kernel_rfl
        case hf87 => kernel_rfl
        case hr87 => kernel_rfl
        case hQ87 => exact fun _ _ _ h => h
        case hS87 => assumption
        case hy87 => (refine Or.inl ⟨by kernel_rfl, ?_⟩; intro w hSw; (try dsimp only at hSw); go_simp; (try with_reducible rfl))
        (try simp only [Act.put, List.setIfInBounds_toArray, List.set_cons_zero, List.set_cons_succ])
        refine wpAnyH_take (i := 6) (oi := ?oi88) (v := ?v88) ?hi88 ?hs88 ?hf88 ?hr88 ?hQ88 ?hy88 ?hS88 ?_
        case hi88 => (simp only [List.getElem?_toArray, List.getElem?_cons_zero, List.getElem?_cons_succ]; rfl)
        case hs88 => kernel_rfl
        case hf88 => kernel_rfl
        case hr88 => kernel_rfl
        case hQ88 => exact fun _ _ _ h => h
        case hS88 => assumption
        case hy88 => (refine Or.inl ⟨by kernel_rfl, ?_⟩; intro w hSw; (try dsimp only at hSw); go_simp; (try with_reducible rfl))
        (try simp only [Act.put, List.setIfInBounds_toArray, List.set_cons_zero, List.set_cons_succ])
        refine wpAnyH_take (i := 7) (oi := ?oi89) (v := ?v89) ?hi89 ?hs89 ?hf89 ?hr89 ?hQ89 ?hy89 ?hS89 ?_
        case hi89 => (simp only [List.getElem?_toArray, List.getElem?_cons_zero, List.getElem?_cons_succ]; rfl)
        case hs89 => kernel_rfl
        case hf89 => kernel_rfl
        case hr89 => kernel_rfl
        case hQ89 => exact fun _ _ _ h => h
        case hS89 => assumption
        case hy89 => (refine Or.inl ⟨by kernel_rfl, ?_⟩; intro w hSw; (try dsimp only at hSw); go_simp; (try with_reducible rfl))
        (try simp only [Act.put, List.setIfInBounds_toArray, List.set_cons_zero, List.set_cons_succ])
        refine wpAnyH_take (i := 8) (oi := ?oi90) (v := ?v90) ?hi90 ?hs90 ?hf90 ?hr90 ?hQ90 ?hy90 ?hS90 ?_
        case hi90 => (simp only [List.getElem?_toArray, List.getElem?_cons_zero, List.getElem?_cons_succ]; rfl)
        case hs90 => kernel_rfl
        case hf90 => kernel_rfl
        case hr90 => kernel_rfl
        case hQ90 => exact fun _ _ _ h => h
        case hS90 => assumption
        case hy90 => (refine Or.inl ⟨by kernel_rfl, ?_⟩; intro w hSw; (try dsimp only at hSw); go_simp; (try with_reducible rfl))
        (try simp only [Act.put, List.setIfInBounds_toArray, List.set_cons_zero, List.set_cons_succ])
        refine wpAnyH_take (i := 9) (oi := ?oi91) (v := ?v91) ?hi91 ?hs91 ?hf91 ?hr91 ?hQ91 ?hy91 ?hS91 ?_
        case hi91 => (simp only [List.getElem?_toArray, List.getElem?_cons_zero, List.getElem?_cons_succ]; rfl)
        case hs91 => kernel_rfl
        case hf91 => kernel_rfl
        case hr91 => kernel_rfl
        case hQ91 => exact fun _ _ _ h => h
        case hS91 => assumption
        case hy91 => (refine Or.inl ⟨by kernel_rfl, ?_⟩; intro w hSw; (try dsimp only at hSw); go_simp; (try with_reducible rfl))
        (try simp only [Act.put, List.setIfInBounds_toArray, List.set_cons_zero, List.set_cons_succ])
        refine wpAnyH_ready (rs := [10]) (by kernel_rfl) (by simp) ?_
        refine AllReadyH.cons (o := ?oi92) ?hi92 (fun K hK => ?_) AllReadyH.nil
        case hi92 => (simp only [List.getElem?_toArray, List.getElem?_cons_zero, List.getElem?_cons_succ]; rfl)
        go_simp
        (go_at_call 27; replace S5 := S5; refine (Big_56 _).mono ?_; rintro e w' ⟨rfl, rfl⟩)
        (try dsimp only [])
        refine hK.out _ _ ?_ (fun hHeld => ?_)
        · (try dsimp only); first | exact ⟨e4_11, e4_12, e4_13, e4_14, e4_15, e4_16⟩ | exact ⟨e5_11, e5_12, e5_13, e5_14, e5_15, e5_16⟩ | exact hHeld
        clear hK K
        (try simp only [Act.put, List.setIfInBounds_toArray, List.set_cons_zero, List.set_cons_succ])
        refine wpAnyH_take (i := 11) (oi := ?oi93) (v := ?v93) ?hi93 ?hs93 ?hf93 ?hr93 ?hQ93 ?hy93 ?hS93 ?_
        case hi93 => (simp only [List.getElem?_toArray, List.getElem?_cons_zero, List.getElem?_cons_succ]; rfl)
        case hs93 => kernel_rfl
        case hf93 => kernel_rfl
        case hr93 => kernel_rfl
        case hQ93 => exact fun _ _ _ h => h
        case hS93 => assumption
        case hy93 => (refine Or.inl ⟨by kernel_rfl, ?_⟩; intro w hSw; (try dsimp only at hSw); go_simp; (try with_reducible rfl))
        (try simp only [Act.put, List.setIfInBounds_toArray, List.set_cons_zero, List.set_cons_succ])
        refine wpAnyH_take (i := 12) (oi := ?oi94) (v := ?v94) ?hi94 ?hs94 ?hf94 ?hr94 ?hQ94 ?hy94 ?hS94 ?_
        case hi94 => (simp only [List.getElem?_toArray, List.getElem?_cons_zero, List.getElem?_cons_succ]; rfl)
        case hs94 => kernel_rfl
        case hf94 => kernel_rfl
        case hr94 => kernel_rfl
        case hQ94 => exact fun _ _ _ h => h
        case hS94 => assumption
        case hy94 => (refine Or.inl ⟨by kernel_rfl, ?_⟩; intro w hSw; (try dsimp only at hSw); go_simp; (try with_reducible rfl))
        (try simp only [Act.put, List.setIfInBounds_toArray, List.set_cons_zero, List.set_cons_succ])
        refine wpAnyH_take (i := 13) (oi := ?oi95) (v := ?v95) ?hi95 ?hs95 ?hf95 ?hr95 ?hQ95 ?hy95 ?hS95 ?_
        case hi95 => (simp only [List.getElem?_toArray, List.getElem?_cons_zero, List.getElem?_cons_succ]; rfl)
        case hs95 => kernel_rfl
        case hf95 => kernel_rfl
        case hr95 => kernel_rfl
        case hQ95 => exact fun _ _ _ h => h
        case hS95 => assumption
        case hy95 => (refine Or.inl ⟨by kernel_rfl, ?_⟩; intro w hSw; (try dsimp only at hSw); go_simp; (try with_reducible rfl))
        (try simp only [Act.put, List.setIfInBounds_toArray, List.set_cons_zero, List.set_cons_succ])
        refine wpAnyH_take (i := 14) (oi := ?oi96) (v := ?v96) ?hi96 ?hs96 ?hf96 ?hr96 ?hQ96 ?hy96 ?hS96 ?_
        case hi96 => (simp only [List.getElem?_toArray, List.getElem?_cons_zero, List.getElem?_cons_succ]; rfl)
        case hs96 => kernel_rfl
        case hf96 => kernel_rfl
        case hr96 => kernel_rfl
        case hQ96 => exact fun _ _ _ h => h
        case hS96 => assumption
        case hy96 => (refine Or.inl ⟨by kernel_rfl, ?_⟩; intro w hSw; (try dsimp only at hSw); go_simp; (try with_reducible rfl))
        (try simp only [Act.put, List.setIfInBounds_toArray, List.set_cons_zero, List.set_cons_succ])
        refine wpAnyH_take (i := 15) (oi := ?oi97) (v := ?v97) ?hi97 ?hs97 ?hf97 ?hr97 ?hQ97 ?hy97 ?hS97 ?_
        case hi97 => (simp only [List.getElem?_toArray, List.getElem?_cons_zero, List.getElem?_cons_succ]; rfl)
        case hs97 => kernel_rfl
        case hf97 => kernel_rfl
        case hr97 => kernel_rfl
        case hQ97 => exact fun _ _ _ h => h
        case hS97 => assumption
        case hy97 => (refine Or.inl ⟨by kernel_rfl, ?_⟩; intro w hSw; (try dsimp only at hSw); go_simp; (try with_reducible rfl))
        (try simp only [Act.put, List.setIfInBounds_toArray, List.set_cons_zero, List.set_cons_succ])
        refine wpAnyH_take (i := 16) (oi := ?oi98) (v := ?v98) ?hi98 ?hs98 ?hf98 ?hr98 ?hQ98 ?hy98 ?hS98 ?_
        case hi98 => (simp only [List.getElem?_toArray, List.getElem?_cons_zero, List.getElem?_cons_succ]; rfl)
        case hs98 => kernel_rfl
        case hf98 => kernel_rfl
        case hr98 => kernel_rfl
        case hQ98 => exact fun _ _ _ h => h
        case hS98 => assumption
        case hy98 => (refine Or.inl ⟨by kernel_rfl, ?_⟩; intro w hSw; (try dsimp only at hSw); go_simp; (try with_reducible rfl))
        (try simp only [Act.put, List.setIfInBounds_toArray, List.set_cons_zero, List.set_cons_succ])
        refine wpAnyH_ready (rs := [17]) (by kernel_rfl) (by simp) ?_
        refine AllReadyH.cons (o := ?oi99) ?hi99 (fun K hK => ?_) AllReadyH.nil
        case hi99 => (simp only [List.getElem?_toArray, List.getElem?_cons_zero, List.getElem?_cons_succ]; rfl)
        go_simp
        (go_at_call 27; replace S5 := S5; refine (Big_56 _).mono ?_; rintro e w' ⟨rfl, rfl⟩)
        (try dsimp only [])
        refine hK.out _ _ ?_ (fun hHeld => ?_)
        · (try dsimp only); first | exact ⟨e4_11, e4_12, e4_13, e4_14, e4_15, e4_16⟩ | exact ⟨e5_11, e5_12, e5_13, e5_14, e5_15, e5_16⟩ | exact hHeld
        clear hK K
        (try simp only [Act.put, List.setIfInBounds_toArray, List.set_cons_zero, List.set_cons_succ])
        refine wpAnyH_take (i := 18) (oi := ?oi100) (v := ?v100) ?hi100 ?hs100 ?hf100 ?hr100 ?hQ100 ?hy100 ?hS100 ?_
        case hi100 => (simp only [List.getElem?_toArray, List.getElem?_cons_zero, List.getElem?_cons_succ]; rfl)
        case hs100 => kernel_rfl
        case hf100 => kernel_rfl
        case hr100 => kernel_rfl
        case hQ100 => exact fun _ _ _ h => h
        case hS100 => assumption
        case hy100 => (refine Or.inl ⟨by kernel_rfl, ?_⟩; intro w hSw; (try dsimp only at hSw); go_simp; (try with_reducible rfl))
        (try simp only [Act.put, List.setIfInBounds_toArray, List.set_cons_zero, List.set_cons_succ])
        refine wpAnyH_take (i := 19) (oi := ?oi101) (v := ?v101) ?hi101 ?hs101 ?hf101 ?hr101 ?hQ101 ?hy101 ?hS101 ?_
        case hi101 => (simp only [List.getElem?_toArray, List.getElem?_cons_zero, List.getElem?_cons_succ]; rfl)
        case hs101 => kernel_rfl
        case hf101 => kernel_rfl
        case hr101 => kernel_rfl
        case hQ101 => exact fun _ _ _ h => h
        case hS101 => assumption
        case hy101 => (refine Or.inl ⟨by kernel_rfl, ?_⟩; intro w hSw; (try dsimp only at hSw); go_simp; (try with_reducible rfl))
        (try simp only [Act.put, List.setIfInBounds_toArray, List.set_cons_zero, List.set_cons_succ])
        refine wpAnyH_take (i := 20) (oi := ?oi102) (v := ?v102) ?hi102 ?hs102 ?hf102 ?hr102 ?hQ102 ?hy102 ?hS102 ?_
        case hi102 => (simp only [List.getElem?_toArray, List.getElem?_cons_zero, List.getElem?_cons_succ]; rfl)
        case hs102 => kernel_rfl
        case hf102 => kernel_rfl
        case hr102 => kernel_rfl
        case hQ102 => exact fun _ _ _ h => h
        case hS102 => assumption
        case hy102 => (refine Or.inl ⟨by kernel_rfl, ?_⟩; intro w hSw; (try dsimp only at hSw); go_simp; (try with_reducible rfl))
        (try simp only [Act.put, List.setIfInBounds_toArray, List.set_cons_zero, List.set_cons_succ])
        refine wpAnyH_take (i := 21) (oi := ?oi103) (v := ?v103) ?hi103 ?hs103 ?hf103 ?hr103 ?hQ103 ?hy103 ?hS103 ?_
        case hi103 => (simp only [List.getElem?_toArray, List.getElem?_cons_zero, List.getElem?_cons_succ]; rfl)
        case hs103 => kernel_rfl
        case hf103 => kernel_rfl
        case hr103 => kernel_rfl
        case hQ103 => exact fun _ _ _ h => h
        case hS103 => assumption
        case hy103 => (refine Or.inl ⟨by kernel_rfl, ?_⟩; intro w hSw; (try dsimp only at hSw); go_simp; (try with_reducible rfl))
        (try simp only [Act.put, List.setIfInBounds_toArray, List.set_cons_zero, List.set_cons_succ])
        refine wpAnyH_take (i := 22) (oi := ?oi104) (v := ?v104) ?hi104 ?hs104 ?hf104 ?hr104 ?hQ104 ?hy104 ?hS104 ?_
        case hi104 => (simp only [List.getElem?_toArray, List.getElem?_cons_zero, List.getElem?_cons_succ]; rfl)
        case hs104 => kernel_rfl
        case hf104 => kernel_rfl
        case hr104 => kernel_rfl
        case hQ104 => exact fun _ _ _ h => h
        case hS104 => assumption
        case hy104 => (refine Or.inl ⟨by kernel_rfl, ?_⟩; intro w hSw; (try dsimp only at hSw); go_simp; (try with_reducible rfl))
        (try simp only [Act.put, List.setIfInBounds_toArray, List.set_cons_zero, List.set_cons_succ])
        refine wpAnyH_take (i := 23) (oi := ?oi105) (v := ?v105) ?hi105 ?hs105 ?hf105 ?hr105 ?hQ105 ?hy105 ?hS105 ?_
        case hi105 => (simp only [List.getElem?_toArray, List.getElem?_cons_zero, List.getElem?_cons_succ]; rfl)
        case hs105 => kernel_rfl
        case hf105 => kernel_rfl
        case hr105 => kernel_rfl
        case hQ105 => exact fun _ _ _ h => h
        case hS105 => assumption
        case hy105 => (refine Or.inl ⟨by kernel_rfl, ?_⟩; intro w hSw; (try dsimp only at hSw); go_simp; (try with_reducible rfl))
        (try simp only [Act.put, List.setIfInBounds_toArray, List.set_cons_zero, List.set_cons_succ])
        refine wpAnyH_ready (rs := [24]) (by kernel_rfl) (by simp) ?_
        refine AllReadyH.cons (o := ?oi106) ?hi106 (fun K hK => ?_) AllReadyH.nil
        case hi106 => (simp only [List.getElem?_toArray, List.getElem?_cons_zero, List.getElem?_cons_succ]; rfl)
        go_simp
        (go_at_call 27; replace S5 := S5; refine (Big_56 _).mono ?_; rintro e w' ⟨rfl, rfl⟩)
        (try dsimp only [])
        refine hK.out _ _ ?_ (fun hHeld => ?_)
        · (try dsimp only); first | exact ⟨e4_11, e4_12, e4_13, e4_14, e4_15, e4_16⟩ | exact ⟨e5_11, e5_12, e5_13, e5_14, e5_15, e5_16⟩ | exact hHeld
        clear hK K
        (try simp only [Act.put, List.setIfInBounds_toArray, List.set_cons_zero, List.set_cons_succ])
        refine wpAnyH_take (i := 25) (oi := ?oi107) (v := ?v107) ?hi107 ?hs107 ?hf107 ?hr107 ?hQ107 ?hy107 ?hS107 ?_
        case hi107 => (simp only [List.getElem?_toArray, List.getElem?_cons_zero, List.getElem?_cons_succ]; rfl)
        case hs107 => kernel_rfl
        case hf107 => kernel_rfl
        case hr107 => kernel_rfl
        case hQ107 => exact fun _ _ _ h => h
        case hS107 => assumption
        case hy107 => (refine Or.inl ⟨by kernel_rfl, ?_⟩; intro w hSw; (try dsimp only at hSw); go_simp; (try with_reducible rfl))
        (try simp only [Act.put, List.setIfInBounds_toArray, List.set_cons_zero, List.set_cons_succ])
        refine wpAnyH_take (i := 26) (oi := ?oi108) (v := ?v108) ?hi108 ?hs108 ?hf108 ?hr108 ?hQ108 ?hy108 ?hS108 ?_
        case hi108 => (simp only [List.getElem?_toArray, List.getElem?_cons_zero, List.getElem?_cons_succ]; rfl)
        case hs108 => kernel_rfl
        case hf108 => kernel_rfl
        case hr108 => kernel_rfl
        case hQ108 => exact fun _ _ _ h => h
        case hS108 => assumption
        case hy108 => (refine Or.inl ⟨by kernel_rfl, ?_⟩; intro w hSw; (try dsimp only at hSw); go_simp; (try with_reducible rfl))
        (try simp only [Act.put, List.setIfInBounds_toArray, List.set_cons_zero, List.set_cons_succ])
        refine wpAnyH_done (by kernel_rfl) ?_ _
        all_goals (go_wp2; (go_ret; exact ⟨by rw [← first_stop hf hr]; rfl, by repeat (first | exact S5.out.bl | refine bl_drewN ?_ _ | refine bl_drew ?_)⟩))
      have hr : ruleB c 5 = true := by rw [h5]; simp at a14 a15 a16; simp; omega
      replace hf := first_step hf hr
      clear hr h5
      go_wp2
      refine wp_region_held_drew (S := (fun w' => w'.cell? ⟨w.heap.size, 11, none⟩ = some (.int .i64 (c 11)) ∧ w'.cell? ⟨w.heap.size, 12, none⟩ = some (.int .i64 (c 12)) ∧ w'.cell? ⟨w.heap.size, 13, none⟩ = some (.int .i64 (c 13)) ∧ w'.cell? ⟨w.heap.size, 14, none⟩ = some (.int .i64 (c 14)) ∧ w'.cell? ⟨w.heap.size, 15, none⟩ = some (.int .i64 (c 15)) ∧ w'.cell? ⟨w.heap.size, 16, none⟩ = some (.int .i64 (c 16)))) (by kernel_rfl) ?_ (fun hHeld => ?_)
      · (try dsimp only); first | exact ⟨e4_11, e4_12, e4_13, e4_14, e4_15, e4_16⟩ | exact ⟨e5_11, e5_12, e5_13, e5_14, e5_15, e5_16⟩ | exact hHeld
      refine wpAnyH_take (i := 0) (oi := ?oi109) (v := ?v109) ?hi109 ?hs109 ?hf109 ?hr109 ?hQ109 ?hy109 ?hS109 ?_
      case hi109 => (simp only [List.getElem?_toArray, List.getElem?_cons_zero, List.getElem?_cons_succ]; rfl)
      case hs109 => kernel_rfl
      case hf109 => kernel_rfl
      case hr109 => kernel_rfl
      case hQ109 => exact fun _ _ _ h => h
      case hS109 => assumption
      case hy109 => (refine Or.inl ⟨by kernel_rfl, ?_⟩; intro w hSw; (try dsimp only at hSw); go_simp; (try with_reducible rfl))
      (try simp only [Act.put, List.setIfInBounds_toArray, List.set_cons_zero, List.set_cons_succ])
      refine wpAnyH_take (i := 1) (oi := ?oi110) (v := ?v110) ?hi110 ?hs110 ?hf110 ?hr110 ?hQ110 ?hy110 ?hS110 ?_
      case hi110 => (simp only [List.getElem?_toArray, List.getElem?_cons_zero, List.getElem?_cons_succ]; rfl)
      case hs110 => kernel_rfl
      case hf110 => kernel_rfl
      case hr110 => kernel_rfl
      case hQ110 => exact fun _ _ _ h => h
      case hS110 => assumption
      case hy110 => (refine Or.inl ⟨by kernel_rfl, ?_⟩; intro w hSw; (try dsimp only at hSw); go_simp; (try with_reducible rfl))
      (try simp only [Act.put, List.setIfInBounds_toArray, List.set_cons_zero, List.set_cons_succ])
      refine wpAnyH_take (i := 2) (oi := ?oi111) (v := ?v111) ?hi111 ?hs111 ?hf111 ?hr111 ?hQ111 ?hy111 ?hS111 ?_
      case hi111 => (simp only [List.getElem?_toArray, List.getElem?_cons_zero, List.getElem?_cons_succ]; rfl)
      case hs111 => kernel_rfl
      case hf111 => kernel_rfl
      case hr111 => kernel_rfl
      case hQ111 => exact fun _ _ _ h => h
      case hS111 => assumption
      case hy111 => (refine Or.inl ⟨by kernel_rfl, ?_⟩; intro w hSw; (try dsimp only at hSw); go_simp; (try with_reducible rfl))
      (try simp only [Act.put, List.setIfInBounds_toArray, List.set_cons_zero, List.set_cons_succ])
      refine wpAnyH_take (i := 3) (oi := ?oi112) (v := ?v112) ?hi112 ?hs112 ?hf112 ?hr112 ?hQ112 ?hy112 ?hS112 ?_
      case hi112 => (simp only [List.getElem?_toArray, List.getElem?_cons_zero, List.getElem?_cons_succ]; rfl)
      case hs112 => kernel_rfl
      case hf112 => kernel_rfl
      case hr112 => kernel_rfl
      case hQ112 => exact fun _ _ _ h => h
      case hS112 => assumption
      case hy112 => (refine Or.inl ⟨by kernel_rfl, ?_⟩; intro w hSw; (try dsimp only at hSw); go_simp; (try with_reducible rfl))
      (try simp only [Act.put, List.setIfInBounds_toArray, List.set_cons_zero, List.set_cons_succ])
      refine wpAnyH_ready (rs := [4]) (by kernel_rfl) (by simp) ?_
      refine AllReadyH.cons (o := ?oi113) ?hi113 (fun K hK => ?_) AllReadyH.nil
      case hi113 => (simp only [List.getElem?_toArray, List.getElem?_cons_zero, List.getElem?_cons_succ]; rfl)
      go_simp
      (go_at_call 51; replace S4 := S4; refine (HM.out _).mono ?_; rintro e w5 ⟨rfl, hb5⟩; apply St.step (w0 := w) (hb := hb5); (focus (with_reducible repeat (first | exact S4.out | apply St.drewN | apply St.drew))); intro S5; clear hb5 S4; have L5 := S5.out.facts.1; simp only at L5; have e5_11 := St.cell S5.out 0 11 rfl rfl; have e5_12 := St.cell S5.out 0 12 rfl rfl; have e5_13 := St.cell S5.out 0 13 rfl rfl; have e5_14 := St.cell S5.out 0 14 rfl rfl; have e5_15 := St.cell S5.out 0 15 rfl rfl; have e5_16 := St.cell S5.out 0 16 rfl rfl)
      (try dsimp only [])
      refine hK.out _ _ ?_ (fun hHeld => ?_)
      · (try dsimp only); first | exact ⟨e4_11, e4_12, e4_13, e4_14, e4_15, e4_16⟩ | exact ⟨e5_11, e5_12, e5_13, e5_14, e5_15, e5_16⟩ | exact hHeld
      clear hK K
      (try simp only [Act.put, List.setIfInBounds_toArray, List.set_cons_zero, List.set_cons_succ])
      refine wpAnyH_take (i := 5) (oi := ?oi114) (v := ?v114) ?hi114 ?hs114 ?hf114 ?hr114 ?hQ114 ?hy114 ?hS114 ?_
      case hi114 => (simp only [List.getElem?_toArray, List.getElem?_cons_zero, List.getElem?_cons_succ]; rfl)
      case hs114 => kernel_rfl
      case hf114 => kernel_rfl
      case hr114 => kernel_rfl
      case hQ114 => exact fun _ _ _ h => h
      case hS114 => assumption
      case hy114 => (refine Or.inl ⟨by kernel_rfl, ?_⟩; intro w hSw; (try dsimp only at hSw); go_simp; (try with_reducible rfl))
      (try simp only [Act.put, List.setIfInBounds_toArray, List.set_cons_zero, List.set_cons_succ])
      refine wpAnyH_take (i := 6) (oi := ?oi115) (v := ?v115) ?hi115 ?hs115 ?hf115 ?hr115 ?hQ115 ?hy115 ?hS115 ?_
      case hi115 => (simp only [List.getElem?_toArray, List.getElem?_cons_zero, List.getElem?_cons_succ]; rfl)
      case hs115 => kernel_rfl
      case hf115 => kernel_rfl
      case hr115 => kernel_rfl
      case hQ115 => exact fun _ _ _ h => h
      case hS115 => assumption
      case hy115 => (refine Or.inl ⟨by kernel_rfl, ?_⟩; intro w hSw; (try dsimp only at hSw); go_simp; (try with_reducible rfl))
      (try simp only [Act.put, List.setIfInBounds_toArray, List.set_cons_zero, List.set_cons_succ])
      refine wpAnyH_take (i := 7) (oi := ?oi116) (v := ?v116) ?hi116 ?hs116 ?hf116 ?hr116 ?hQ116 ?hy116 ?hS116 ?_
      case hi116 => (simp only [List.getElem?_toArray, List.getElem?_cons_zero, List.getElem?_cons_succ]; rfl)
      case hs116 => kernel_rfl
      case hf116 => kernel_rfl
      case hr116 => kernel_rfl
      case hQ116 => exact fun _ _ _ h => h
      case hS116 => assumption
      case hy116 => (refine Or.inl ⟨by kernel_rfl, ?_⟩; intro w hSw; (try dsimp only at hSw); go_simp; (try with_reducible rfl))
      (try simp only [Act.put, List.setIfInBounds_toArray, List.set_cons_zero, List.set_cons_succ])
      refine wpAnyH_take (i := 8) (oi := ?oi117) (v := ?v117) ?hi117 ?hs117 ?hf117 ?hr117 ?hQ117 ?hy117 ?hS117 ?_
      case hi117 => (simp only [List.getElem?_toArray, List.getElem?_cons_zero, List.getElem?_cons_succ]; rfl)
      case hs117 => kernel_rfl
      case hf117 => kernel_rfl
      case hr117 => kernel_rfl
      case hQ117 => exact fun _ _ _ h => h
      case hS117 => assumption
      case hy117 => (refine Or.inl ⟨by kernel_rfl, ?_⟩; intro w hSw; (try dsimp only at hSw); go_simp; (try with_reducible rfl))
      (try simp only [Act.put, List.setIfInBounds_toArray, List.set_cons_zero, List.set_cons_succ])
      refine wpAnyH_take (i := 9) (oi := ?oi118) (v := ?v118) ?hi118 ?hs118 ?hf118 ?hr118 ?hQ118 ?hy118 ?hS118 ?_
      case hi118 => (simp only [List.getElem?_toArray, List.getElem?_cons_zero, List.getElem?_cons_succ]; rfl)
      case hs118 => kernel_rfl
      case hf118 => kernel_rfl
      case hr118 => kernel_rfl
      case hQ118 => exact fun _ _ _ h => h
      case hS118 => assumption
      case hy118 => (refine Or.inl ⟨by kernel_rfl, ?_⟩; intro w hSw; (try dsimp only at hSw); go_simp; (try with_reducible rfl))
      (try simp only [Act.put, List.setIfInBounds_toArray, List.set_cons_zero, List.set_cons_succ])
      refine wpAnyH_ready (rs := [10]) (by kernel_rfl) (by simp) ?_
      refine AllReadyH.cons (o := ?oi119) ?hi119 (fun K hK => ?_) AllReadyH.nil
      case hi119 => (simp only [List.getElem?_toArray, List.getElem?_cons_zero, List.getElem?_cons_succ]; rfl)
      go_simp
      (go_at_call 27; replace S5 := S5; refine (Big_56 _).mono ?_; rintro e w' ⟨rfl, rfl⟩)
      (try dsimp only [])
      refine hK.out _ _ ?_ (fun hHeld => ?_)
      · (try dsimp only); first | exact ⟨e4_11, e4_12, e4_13, e4_14, e4_15, e4_16⟩ | exact ⟨e5_11, e5_12, e5_13, e5_14, e5_15, e5_16⟩ | exact hHeld
      clear hK K
      (try simp only [Act.put, List.setIfInBounds_toArray, List.set_cons_zero, List.set_cons_succ])
      refine wpAnyH_take (i := 11) (oi := ?oi120) (v := ?v120) ?hi120 ?hs120 ?hf120 ?hr120 ?hQ120 ?hy120 ?hS120 ?_
      case hi120 => (simp only [List.getElem?_toArray, List.getElem?_cons_zero, List.getElem?_cons_succ]; rfl)
      case hs120 => kernel_rfl
      case hf120 => kernel_rfl
      case hr120 => kernel_rfl
      case hQ120 => exact fun _ _ _ h => h
      case hS120 => assumption
      case hy120 => (refine Or.inl ⟨by kernel_rfl, ?_⟩; intro w hSw; (try dsimp only at hSw); go_simp; (try with_reducible rfl))
      (try simp only [Act.put, List.setIfInBounds_toArray, List.set_cons_zero, List.set_cons_succ])
      refine wpAnyH_take (i := 12) (oi := ?oi121) (v := ?v121) ?hi121 ?hs121 ?hf121 ?hr121 ?hQ121 ?hy121 ?hS121 ?_
      case hi121 => (simp only [List.getElem?_toArray, List.getElem?_cons_zero, List.getElem?_cons_succ]; rfl)
      case hs121 => kernel_rfl
      case hf121 => kernel_rfl
      case hr121 => kernel_rfl
      case hQ121 => exact fun _ _ _ h => h
      case hS121 => assumption
      case hy121 => (refine Or.inl ⟨by kernel_rfl, ?_⟩; intro w hSw; (try dsimp only at hSw); go_simp; (try with_reducible rfl))
      (try simp only [Act.put, List.setIfInBounds_toArray, List.set_cons_zero, List.set_cons_succ])
      refine wpAnyH_take (i := 13) (oi := ?oi122) (v := ?v122) ?hi122 ?hs122 ?hf122 ?hr122 ?hQ122 ?hy122 ?hS122 ?_
      case hi122 => (simp only [List.getElem?_toArray, List.getElem?_cons_zero, List.getElem?_cons_succ]; rfl)
      case hs122 => kernel_rfl
      case hf122 => kernel_rfl
      case hr122 => kernel_rfl
      case hQ122 => exact fun _ _ _ h => h
      case hS122 => assumption
      case hy122 => (refine Or.inl ⟨by kernel_rfl, ?_⟩; intro w hSw; (try dsimp only at hSw); go_simp; (try with_reducible rfl))
      (try simp only [Act.put, List.setIfInBounds_toArray, List.set_cons_zero, List.set_cons_succ])
      refine wpAnyH_take (i := 14) (oi := ?oi123) (v := ?v123) ?hi123 ?hs123 ?hf123 ?hr123 ?hQ123 ?hy123 ?hS123 ?_
      case hi123 => (simp only [List.getElem?_toArray, List.getElem?_cons_zero, List.getElem?_cons_succ]; rfl)
      case hs123 => kernel_rfl
      case hf123 => kernel_rfl
      case hr123 => kernel_rfl
      case hQ123 => exact fun _ _ _ h => h
      case hS123 => assumption
      case hy123 => (refine Or.inl ⟨by kernel_rfl, ?_⟩; intro w hSw; (try dsimp only at hSw); go_simp; (try with_reducible rfl))
      (try simp only [Act.put, List.setIfInBounds_toArray, List.set_cons_zero, List.set_cons_succ])
      refine wpAnyH_take (i := 15) (oi := ?oi124) (v := ?v124) ?hi124 ?hs124 ?hf124 ?hr124 ?hQ124 ?hy124 ?hS124 ?_
      case hi124 => (simp only [List.getElem?_toArray, List.getElem?_cons_zero, List.getElem?_cons_succ]; rfl)
      case hs124 => kernel_rfl
      case hf124 => kernel_rfl
      case hr124 => kernel_rfl
      case hQ124 => exact fun _ _ _ h => h
      case hS124 => assumption
      case hy124 => (refine Or.inl ⟨by kernel_rfl, ?_⟩; intro w hSw; (try dsimp only at hSw); go_simp; (try with_reducible rfl))
      (try simp only [Act.put, List.setIfInBounds_toArray, List.set_cons_zero, List.set_cons_succ])
      refine wpAnyH_take (i := 16) (oi := ?oi125) (v := ?v125) ?hi125 ?hs125 ?hf125 ?hr125 ?hQ125 ?hy125 ?hS125 ?_
      case hi125 => (simp only [List.getElem?_toArray, List.getElem?_cons_zero, List.getElem?_cons_succ]; rfl)
      case hs125 => kernel_rfl
      case hf125 => kernel_rfl
      case hr125 => kernel_rfl
      case hQ125 => exact fun _ _ _ h => h
      case hS125 => assumption
      case hy125 => (refine Or.inl ⟨by kernel_rfl, ?_⟩; intro w hSw; (try dsimp only at hSw); go_simp; (try with_reducible rfl))
      (try simp only [Act.put, List.setIfInBounds_toArray, List.set_cons_zero, List.set_cons_succ])
      refine wpAnyH_ready (rs := [17]) (by kernel_rfl) (by simp) ?_
      refine AllReadyH.cons (o := ?oi126) ?hi126 (fun K hK => ?_) AllReadyH.nil
      case hi126 => (simp only [List.getElem?_toArray, List.getElem?_cons_zero, List.getElem?_cons_succ]; rfl)
      go_simp
      (go_at_call 27; replace S5 := S5; refine (Big_56 _).mono ?_; rintro e w' ⟨rfl, rfl⟩)
      (try dsimp only [])
      refine hK.out _ _ ?_ (fun hHeld => ?_)
      · (try dsimp only); first | exact ⟨e4_11, e4_12, e4_13, e4_14, e4_15, e4_16⟩ | exact ⟨e5_11, e5_12, e5_13, e5_14, e5_15, e5_16⟩ | exact hHeld
      clear hK K
      (try simp only [Act.put, List.setIfInBounds_toArray, List.set_cons_zero, List.set_cons_succ])
      refine wpAnyH_take (i := 18) (oi := ?oi127) (v := ?v127) ?hi127 ?hs127 ?hf127 ?hr127 ?hQ127 ?hy127 ?hS127 ?_
      case hi127 => (simp only [List.getElem?_toArray, List.getElem?_cons_zero, List.getElem?_cons_succ]; rfl)
      case hs127 => kernel_rfl
      case hf127 => kernel_rfl
      case hr127 => kernel_rfl
      case hQ127 => exact fun _ _ _ h => h
      case hS127 => assumption
      case hy127 => (refine Or.inl ⟨by kernel_rfl, ?_⟩; intro w hSw; (try dsimp only at hSw); go_simp; (try with_reducible rfl))
      (try simp only [Act.put, List.setIfInBounds_toArray, List.set_cons_zero, List.set_cons_succ])
      refine wpAnyH_take (i := 19) (oi := ?oi128) (v := ?v128) ?hi128 ?hs128 ?hf128 ?hr128 ?hQ128 ?hy128 ?hS128 ?_
      case hi128 => (simp only [List.getElem?_toArray, List.getElem?_cons_zero, List.getElem?_cons_succ]; rfl)
      case hs128 => kernel_rfl
      case hf128 => kernel_rfl
      case hr128 => kernel_rfl
      case hQ128 => exact fun _ _ _ h => h
      case hS128 => assumption
      case hy128 => (refine Or.inl ⟨by kernel_rfl, ?_⟩; intro w hSw; (try dsimp only at hSw); go_simp; (try with_reducible rfl))
      (try simp only [Act.put, List.setIfInBounds_toArray, List.set_cons_zero, List.set_cons_succ])
      refine wpAnyH_take (i := 20) (oi := ?oi129) (v := ?v129) ?hi129 ?hs129 ?hf129 ?hr129 ?hQ129 ?hy129 ?hS129 ?_
      case hi129 => (simp only [List.getElem?_toArray, List.getElem?_cons_zero, List.getElem?_cons_succ]; rfl)
      case hs129 => kernel_rfl
      case hf129 => kernel_rfl
      case hr129 => kernel_rfl
      case hQ129 => exact fun _ _ _ h => h
      case hS129 => assumption
      case hy129 => (refine Or.inl ⟨by kernel_rfl, ?_⟩; intro w hSw; (try dsimp only at hSw); go_simp; (try with_reducible rfl))
      (try simp only [Act.put, List.setIfInBounds_toArray, List.set_cons_zero, List.set_cons_succ])
      refine wpAnyH_take (i := 21) (oi := ?oi130) (v := ?v130) ?hi130 ?hs130 ?hf130 ?hr130 ?hQ130 ?hy130 ?hS130 ?_
      case hi130 => (simp only [List.getElem?_toArray, List.getElem?_cons_zero, List.getElem?_cons_succ]; rfl)
      case hs130 => kernel_rfl
      case hf130 => kernel_rfl
      case hr130 => kernel_rfl
      case hQ130 => exact fun _ _ _ h => h
      case hS130 => assumption
      case hy130 => (refine Or.inl ⟨by kernel_rfl, ?_⟩; intro w hSw; (try dsimp only at hSw); go_simp; (try with_reducible rfl))
      (try simp only [Act.put, List.setIfInBounds_toArray, List.set_cons_zero, List.set_cons_succ])
      refine wpAnyH_take (i := 22) (oi := ?oi131) (v := ?v131) ?hi131 ?hs131 ?hf131 ?hr131 ?hQ131 ?hy131 ?hS131 ?_
      case hi131 => (simp only [List.getElem?_toArray, List.getElem?_cons_zero, List.getElem?_cons_succ]; rfl)
      case hs131 => kernel_rfl
      case hf131 => kernel_rfl
      case hr131 => kernel_rfl
      case hQ131 => exact fun _ _ _ h => h
      case hS131 => assumption
      case hy131 => (refine Or.inl ⟨by kernel_rfl, ?_⟩; intro w hSw; (try dsimp only at hSw); go_simp; (try with_reducible rfl))
      (try simp only [Act.put, List.setIfInBounds_toArray, List.set_cons_zero, List.set_cons_succ])
      refine wpAnyH_take (i := 23) (oi := ?oi132) (v := ?v132) ?hi132 ?hs132 ?hf132 ?hr132 ?hQ132 ?hy132 ?hS132 ?_
      case hi132 => (simp only [List.getElem?_toArray, List.getElem?_cons_zero, List.getElem?_cons_succ]; rfl)
      case hs132 => kernel_rfl
      case hf132 => kernel_rfl
      case hr132 => kernel_rfl
      case hQ132 => exact fun _ _ _ h => h
      case hS132 => assumption
      case hy132 => (refine Or.inl ⟨by kernel_rfl, ?_⟩; intro w hSw; (try dsimp only at hSw); go_simp; (try with_reducible rfl))
      (try simp only [Act.put, List.setIfInBounds_toArray, List.set_cons_zero, List.set_cons_succ])
      refine wpAnyH_ready (rs := [24]) (by kernel_rfl) (by simp) ?_
      refine AllReadyH.cons (o := ?oi133) ?hi133 (fun K hK => ?_) AllReadyH.nil
      case hi133 => (simp only [List.getElem?_toArray, List.getElem?_cons_zero, List.getElem?_cons_succ]; rfl)
      go_simp
      (go_at_call 27; replace S5 := S5; refine (Big_56 _).mono ?_; rintro e w' ⟨rfl, rfl⟩)
      (try dsimp only [])
      refine hK.out _ _ ?_ (fun hHeld => ?_)
      · (try dsimp only); first | exact ⟨e4_11, e4_12, e4_13, e4_14, e4_15, e4_16⟩ | exact ⟨e5_11, e5_12, e5_13, e5_14, e5_15, e5_16⟩ | exact hHeld
      clear hK K
      (try simp only [Act.put, List.setIfInBounds_toArray, List.set_cons_zero, List.set_cons_succ])
      refine wpAnyH_take (i := 25) (oi := ?oi134) (v := ?v134) ?hi134 ?hs134 ?hf134 ?hr134 ?hQ134 ?hy134 ?hS134 ?_
      case hi134 => (simp only [List.getElem?_toArray, List.getElem?_cons_zero, List.getElem?_cons_succ]; rfl)
      case hs134 => kernel_rfl
      case hf134 => kernel_rfl
      case hr134 => kernel_rfl
      case hQ134 => exact fun _ _ _ h => h
      case hS134 => assumption
      case hy134 => (refine Or.inl ⟨by kernel_rfl, ?_⟩; intro w hSw; (try dsimp only at hSw); go_simp; (try with_reducible rfl))
      (try simp only [Act.put, List.setIfInBounds_toArray, List.set_cons_zero, List.set_cons_succ])
      refine wpAnyH_take (i := 26) (oi := ?oi135) (v := ?v135) ?hi135 ?hs135 ?hf135 ?hr135 ?hQ135 ?hy135 ?hS135 ?_
      case hi135 => (simp only [List.getElem?_toArray, List.getElem?_cons_zero, List.getElem?_cons_succ]; rfl)
      case hs135 => kernel_rfl
      case hf135 => kernel_rfl
      case hr135 => kernel_rfl
      case hQ135 => exact fun _ _ _ h => h
      case hS135 => assumption
      case hy135 => (refine Or.inl ⟨by kernel_rfl, ?_⟩; intro w hSw; (try dsimp only at hSw); go_simp; (try with_reducible rfl))
      (try simp only [Act.put, List.setIfInBounds_toArray, List.set_cons_zero, List.set_cons_succ])
      refine wpAnyH_done (by kernel_rfl) ?_ _
      clear hHeld
      clear a14 a15 a16
      go_wp2
      go_loopw [5] (fun v wr => ∃ k : Int, (k = 0 ∨ k = 1 ∨ k = 2 ∨ k = 3) ∧ v = .int .i64 k ∧ upto (fun j => wiB (c (8 + j)) (c (11 + j)) (c (14 + j))) k.toNat ∧ Asd (St w wr [(w.heap.size, [.int .i64 (c 0), .int .i64 (c 1), .int .i64 (c 2), .int .i64 (c 3), .int .i64 (c 4), .int .i64 (c 5), .int .i64 (c 6), .int .i64 (c 7), .int .i64 (c 8), .int .i64 (c 9), .int .i64 (c 10), .int .i64 (c 11), .int .i64 (c 12), .int .i64 (c 13), .int .i64 (c 14), .int .i64 (c 15), .int .i64 (c 16), .int .i64 (c 17), .int .i64 (c 18), .int .i64 (c 19), .int .i64 (c 20), .int .i64 (c 21), .int .i64 (c 22), .int .i64 (c 23), .int .i64 (c 24), .int .i64 (c 25), .int .i64 (c 26), .int .i64 (c 27), .int .i64 (c 28), .int .i64 (c 29), .int .i64 (c 30)])] [])) (fun v _ => 3 - (intOf v).toNat)
      case atStart => exact ⟨0, by decide, rfl, up_0 _, S5⟩
      case round =>
        obtain ⟨k, hk, rfl, hu, S6⟩ := hrel
        clear S5
        rcases hk with rfl | rfl | rfl | rfl
        · obtain ⟨b, hb⟩ : ∃ b, wiB (c (8 + 0)) (c (11 + 0)) (c (14 + 0)) = b := ⟨_, rfl⟩
          have L6 := S6.out.facts.1; simp only at L6; have e6_8 := St.cell S6.out 0 8 rfl rfl; have e6_11 := St.cell S6.out 0 11 rfl rfl; have e6_14 := St.cell S6.out 0 14 rfl rfl
          cases b
          all_goals (go_wp2; go_quiet (first | (go_at_call 24; exact quiet_left' (ref13_in _ _ _ _)) | (go_at_call 27; with_reducible exact quiet_left' (Big_17 _)) | (go_at_call 27; with_reducible exact quiet_left' (Big_38 _)) | (go_at_call 27; with_reducible exact quiet_left' (Big_40 _)) | (go_at_call 27; with_reducible exact quiet_left' (Big_42 _)) | (go_at_call 27; with_reducible exact quiet_left' (Big_50 _)) | (go_at_call 27; with_reducible exact quiet_left' (Big_54 _)) | (go_at_call 27; with_reducible exact quiet_left' (Big_56 _))); go_wp2)
          · have hr : ruleB c 6 = false := not_3 (p := (fun j => wiB (c (8 + j)) (c (11 + j)) (c (14 + j)))) (k := 0) (by decide) hb
            go_ret
            exact ⟨by rw [← first_stop hf hr]; rfl, by repeat (first | exact S6.out.bl | refine bl_drewN ?_ _ | refine bl_drew ?_)⟩
          · go_roundw
            case rel => exact ⟨1, by decide, rfl, up_s (n := 0) hu hb, ⟨St.drewN S6.out _⟩⟩
            case measure => simp [intOf]
        · obtain ⟨b, hb⟩ : ∃ b, wiB (c (8 + 1)) (c (11 + 1)) (c (14 + 1)) = b := ⟨_, rfl⟩
          have L6 := S6.out.facts.1; simp only at L6; have e6_9 := St.cell S6.out 0 9 rfl rfl; have e6_12 := St.cell S6.out 0 12 rfl rfl; have e6_15 := St.cell S6.out 0 15 rfl rfl
          cases b
          all_goals (go_wp2; go_quiet (first | (go_at_call 24; exact quiet_left' (ref13_in _ _ _ _)) | (go_at_call 27; with_reducible exact quiet_left' (Big_17 _)) | (go_at_call 27; with_reducible exact quiet_left' (Big_38 _)) | (go_at_call 27; with_reducible exact quiet_left' (Big_40 _)) | (go_at_call 27; with_reducible exact quiet_left' (Big_42 _)) | (go_at_call 27; with_reducible exact quiet_left' (Big_50 _)) | (go_at_call 27; with_reducible exact quiet_left' (Big_54 _)) | (go_at_call 27; with_reducible exact quiet_left' (Big_56 _))); go_wp2)
          · have hr : ruleB c 6 = false := not_3 (p := (fun j => wiB (c (8 + j)) (c (11 + j)) (c (14 + j)))) (k := 1) (by decide) hb
            go_ret
            exact ⟨by rw [← first_stop hf hr]; rfl, by repeat (first | exact S6.out.bl | refine bl_drewN ?_ _ | refine bl_drew ?_)⟩
          · go_roundw
            case rel => exact ⟨2, by decide, rfl, up_s (n := 1) hu hb, ⟨St.drewN S6.out _⟩⟩
            case measure => simp [intOf]
        · obtain ⟨b, hb⟩ : ∃ b, wiB (c (8 + 2)) (c (11 + 2)) (c (14 + 2)) = b := ⟨_, rfl⟩
          have L6 := S6.out.facts.1; simp only at L6; have e6_10 := St.cell S6.out 0 10 rfl rfl; have e6_13 := St.cell S6.out 0 13 rfl rfl; have e6_16 := St.cell S6.out 0 16 rfl rfl
          cases b
          all_goals (go_wp2; go_quiet (first | (go_at_call 24; exact quiet_left' (ref13_in _ _ _ _)) | (go_at_call 27; with_reducible exact quiet_left' (Big_17 _)) | (go_at_call 27; with_reducible exact quiet_left' (Big_38 _)) | (go_at_call 27; with_reducible exact quiet_left' (Big_40 _)) | (go_at_call 27; with_reducible exact quiet_left' (Big_42 _)) | (go_at_call 27; with_reducible exact quiet_left' (Big_50 _)) | (go_at_call 27; with_reducible exact quiet_left' (Big_54 _)) | (go_at_call 27; with_reducible exact quiet_left' (Big_56 _))); go_wp2)
          · have hr : ruleB c 6 = false := not_3 (p := (fun j => wiB (c (8 + j)) (c (11 + j)) (c (14 + j)))) (k := 2) (by decide) hb
            go_ret
            exact ⟨by rw [← first_stop hf hr]; rfl, by repeat (first | exact S6.out.bl | refine bl_drewN ?_ _ | refine bl_drew ?_)⟩
          · go_roundw
            case rel => exact ⟨3, by decide, rfl, up_s (n := 2) hu hb, ⟨St.drewN S6.out _⟩⟩
            case measure => simp [intOf]
        have hr : ruleB c 6 = true := up_3 hu
        replace hf := first_step hf hr
        clear hr hu
        have L6 := S6.out.facts.1; simp only at L6; have e6_17 := St.cell S6.out 0 17 rfl rfl; have e6_18 := St.cell S6.out 0 18 rfl rfl; have e6_19 := St.cell S6.out 0 19 rfl rfl
        have h7 : ruleB c 7 = (wiB (c 17) 18014398509481984 72057594037927936 && (wiB (c 18) 0 72057594037927936 && wiB (c 19) 0 72057594037927936)) := rule7_eq c
        obtain ⟨q0, hq0⟩ : ∃ q, wiB (c 17) 18014398509481984 72057594037927936 = q := ⟨_, rfl⟩
        have HI0 : Asd (∀ W, Calls Try.prog 24 #[.int .i64 (c 17), .int .i64 18014398509481984, .int .i64 72057594037927936] W fun e w' => e = .returned (.bool q0) ∧ W = w') := ⟨fun W => by rw [← hq0]; exact ref13_in _ _ _ W⟩
        obtain ⟨q1, hq1⟩ : ∃ q, wiB (c 18) 0 72057594037927936 = q := ⟨_, rfl⟩
        have HI1 : Asd (∀ W, Calls Try.prog 24 #[.int .i64 (c 18), .int .i64 0, .int .i64 72057594037927936] W fun e w' => e = .returned (.bool q1) ∧ W = w') := ⟨fun W => by rw [← hq1]; exact ref13_in _ _ _ W⟩
        obtain ⟨q2, hq2⟩ : ∃ q, wiB (c 19) 0 72057594037927936 = q := ⟨_, rfl⟩
        have HI2 : Asd (∀ W, Calls Try.prog 24 #[.int .i64 (c 19), .int .i64 0, .int .i64 72057594037927936] W fun e w' => e = .returned (.bool q2) ∧ W = w') := ⟨fun W => by rw [← hq2]; exact ref13_in _ _ _ W⟩
        rw [hq0, hq1, hq2] at h7
        clear hq0 hq1 hq2
        cases q0
        · have hr : ruleB c 7 = false := by rw [h7]; simp
          go_wp2
          go_quiet (first | (go_at_call 24; with_reducible exact quiet_left' (HI0.out _)) | (go_at_call 24; with_reducible exact quiet_left' (HI1.out _)) | (go_at_call 24; with_reducible exact quiet_left' (HI2.out _)) | (go_at_call 27; with_reducible exact quiet_left' (Big_17 _)) | (go_at_call 27; with_reducible exact quiet_left' (Big_38 _)) | (go_at_call 27; with_reducible exact quiet_left' (Big_40 _)) | (go_at_call 27; with_reducible exact quiet_left' (Big_42 _)) | (go_at_call 27; with_reducible exact quiet_left' (Big_50 _)) | (go_at_call 27; with_reducible exact quiet_left' (Big_54 _)) | (go_at_call 27; with_reducible exact quiet_left' (Big_56 _)))
          go_wp2
          go_ret
          exact ⟨by rw [← first_stop hf hr]; rfl, by repeat (first | exact S6.out.bl | refine bl_drewN ?_ _ | refine bl_drew ?_)⟩
        cases q1
        · have hr : ruleB c 7 = false := by rw [h7]; simp
          go_wp2
          go_quiet (first | (go_at_call 24; with_reducible exact quiet_left' (HI0.out _)) | (go_at_call 24; with_reducible exact quiet_left' (HI1.out _)) | (go_at_call 24; with_reducible exact quiet_left' (HI2.out _)) | (go_at_call 27; with_reducible exact quiet_left' (Big_17 _)) | (go_at_call 27; with_reducible exact quiet_left' (Big_38 _)) | (go_at_call 27; with_reducible exact quiet_left' (Big_40 _)) | (go_at_call 27; with_reducible exact quiet_left' (Big_42 _)) | (go_at_call 27; with_reducible exact quiet_left' (Big_50 _)) | (go_at_call 27; with_reducible exact quiet_left' (Big_54 _)) | (go_at_call 27; with_reducible exact quiet_left' (Big_56 _)))
          go_wp2
          go_ret
          exact ⟨by rw [← first_stop hf hr]; rfl, by repeat (first | exact S6.out.bl | refine bl_drewN ?_ _ | refine bl_drew ?_)⟩
        cases q2
        · have hr : ruleB c 7 = false := by rw [h7]; simp
          go_wp2
          go_quiet (first | (go_at_call 24; with_reducible exact quiet_left' (HI0.out _)) | (go_at_call 24; with_reducible exact quiet_left' (HI1.out _)) | (go_at_call 24; with_reducible exact quiet_left' (HI2.out _)) | (go_at_call 27; with_reducible exact quiet_left' (Big_17 _)) | (go_at_call 27; with_reducible exact quiet_left' (Big_38 _)) | (go_at_call 27; with_reducible exact quiet_left' (Big_40 _)) | (go_at_call 27; with_reducible exact quiet_left' (Big_42 _)) | (go_at_call 27; with_reducible exact quiet_left' (Big_50 _)) | (go_at_call 27; with_reducible exact quiet_left' (Big_54 _)) | (go_at_call 27; with_reducible exact quiet_left' (Big_56 _)))
          go_wp2
          go_ret
          exact ⟨by rw [← first_stop hf hr]; rfl, by repeat (first | exact S6.out.bl | refine bl_drewN ?_ _ | refine bl_drew ?_)⟩
        have hr : ruleB c 7 = true := by rw [h7]; rfl
        replace hf := first_step hf hr
        go_wp2
        go_quiet (first | (go_at_call 24; with_reducible exact quiet_left' (HI0.out _)) | (go_at_call 24; with_reducible exact quiet_left' (HI1.out _)) | (go_at_call 24; with_reducible exact quiet_left' (HI2.out _)) | (go_at_call 27; with_reducible exact quiet_left' (Big_17 _)) | (go_at_call 27; with_reducible exact quiet_left' (Big_38 _)) | (go_at_call 27; with_reducible exact quiet_left' (Big_40 _)) | (go_at_call 27; with_reducible exact quiet_left' (Big_42 _)) | (go_at_call 27; with_reducible exact quiet_left' (Big_50 _)) | (go_at_call 27; with_reducible exact quiet_left' (Big_54 _)) | (go_at_call 27; with_reducible exact quiet_left' (Big_56 _)))
        go_wp2
        go_ret
        exact ⟨by rw [← hf]; rfl, by repeat (first | exact S6.out.bl | refine bl_drewN ?_ _ | refine bl_drew ?_)⟩
end Go.Proofs.Ytpgkchbgjciinaa
