/- Walks of the reference of layer 3 (root): halving what is between. -/
import Derived.Test.YtgodfbhjfhdihaaDoorQa
import Derived.Test.YtgodfbhjfhdihaaDoorRu
import Derived.Test.YtgodfbhjfhdihaaDoorSu
import Derived.Deep.LoopGhost
namespace Go.Proofs.YtgodfbhjfhdihaaDoor
open Go.RowKit
set_option linter.unusedSimpArgs false
set_option linter.unusedVariables false
attribute [local go_sem] nlt2 nlt3 nlt4 nlt5 nlt6 nlt7 nlt8 nlt9 nlt10 nlt11 nlt12
attribute [local go_sem] field_D

theorem nd_64 {x : Int} (h0 : 0 ≤ x) (h : x ≤ 18446744073709551616) : nd x ≤ 5 := nd_le_of (by have e : pB 5 = 1208925819614629174706176 := by decide
                                                                                               rw [e]; omega)
theorem cmpZ_gt {a b : Int} (h : b < a) : cmpZ a b = 1 := by unfold cmpZ; rw [if_neg (by omega), if_neg (by omega)]
theorem cmpZ_self (a : Int) : cmpZ a a = 0 := by unfold cmpZ; rw [if_neg (by omega), if_pos rfl]
theorem ref_Div_two (x : Int) (A B : Option Addr) (c d : Nat) (ha : nd x ≤ 5000) (w : World) (hA : RB w A c x) (hB : RB w B d 2) :
    Calls Tryd.prog 43 #[.agg #[.bool (sg x), .slice A (nd x) c], .agg #[.bool (sg 2), .slice B (nd 2) d]] w (BigR w (x / 2)) := ref_Div x 2 A B c d (by omega) ha (Nat.le_trans (nd_le_of (k := 1) (by decide)) (by omega)) w hA hB

set_option maxRecDepth 100000 in
set_option maxHeartbeats 8000000 in
theorem ref3_Of (a : Int) (A : Option Addr) (c : Nat) (ha : 0 ≤ a) (hlt : a < 340282366920938463463374607431768211456) (w : World) (hA : RB w A c a) :
    Calls Tryd.prog 63 #[.agg #[.bool (sg a), .slice A (nd a) c]] w (BigR w (rt a)) := by
  have S0 := Asd.mk ((St.refl w).big hA)
  obtain ⟨N, hN⟩ : ∃ N : Nat, N = 18446744073709551616 := ⟨_, rfl⟩
  have HN := Asd.mk hN
  have H0 := Asd.mk (show 0 ≤ (0 : Int) ∧ (0 : Int) < pow2 64 ∧ pow2 64 ≤ 18446744073709551616 ∧ (0 : Int) * 0 ≤ a ∧ a < pow2 64 * pow2 64 by rw [pow2_64]; omega)
  have na : Asd (nd a ≤ 10000) := ⟨by have : nd a ≤ 8 := nd_le_of (by have e : pB 8 = 340282366920938463463374607431768211456 := by decide
                                                                      rw [e]; omega)
                                      omega⟩
  have I0 : Asd (I64 0) := ⟨by decide⟩
  have I1 : Asd (I64 1) := ⟨by decide⟩
  have I2 : Asd (I64 2) := ⟨by decide⟩
  clear hA ha hlt hN
  go_enter Tryd.func63, Tryd.ntmps63
  go_wp2_with (first
      | (go_at_call 53; replace S1 := S1; refine (ref_Power 64 (by omega) _).mono ?_; rintro e w2 ⟨A2, c2, rfl, hr2, hb2⟩; apply St.stepB (w0 := w) (hb := hb2) (hr := hr2); (focus (with_reducible repeat (first | exact S1.out | apply St.lay | apply St.drew | apply St.drewN))); intro S2; (try simp only [sz_alloc, sz_drew, sz_drewN] at S2); clear hr2 hb2 S1; (try clear C1); have C2 := S2.out.facts; simp only [facts, apart, cellsAt, Nat.zero_add, Nat.reduceAdd, and_true] at C2)
      | (go_at_call 41; replace S0 := S0; refine (ref_Of 0 I0.out _).mono ?_; rintro e w1 ⟨A1, c1, rfl, hr1, hb1⟩; apply St.stepB (w0 := w) (hb := hb1) (hr := hr1); (focus (with_reducible repeat (first | exact S0.out | apply St.lay | apply St.drew | apply St.drewN))); intro S1; (try simp only [sz_alloc, sz_drew, sz_drewN] at S1); clear hr1 hb1 S0; (try clear C0); have C1 := S1.out.facts; simp only [facts, apart, cellsAt, Nat.zero_add, Nat.reduceAdd, and_true] at C1))
  go_loopg [] N (fun k wr => ∃ (l h : Int) (Al : Option Addr) (cl : Nat) (Ah : Option Addr) (ch : Nat), (h - l).toNat ≤ k ∧ Asd (0 ≤ l ∧ l < h ∧ h ≤ 18446744073709551616 ∧ l * l ≤ a ∧ a < h * h) ∧ Asd (St w wr [(w2.heap.size + 1, [.bool (sg h), .slice Ah (nd h) ch]), (w2.heap.size, [.bool (sg l), .slice Al (nd l) cl]), (w.heap.size + 1, [.bool false, .slice none 0 0]), (w.heap.size, [.bool (sg a), .slice A (nd a) c])] [(Al, cl, l), (Ah, ch, h), (A, c, a)]))
  case atStart => exact ⟨0, pow2 64, A1, c1, A2, c2, by have := HN.out; rw [pow2_64]; omega, H0, ⟨St.of (by have hlow := S2.out.lows; simp only [low, and_true] at hlow; exact (by repeat (first | exact Below.refl _ _ | assumption | exact S2.out.bl | refine bl_alloc ?_ _ | refine bl_drewN ?_ _ | refine bl_drew ?_ | refine bl_set ?_ (by first | (simp; done) | (simp; omega) | (dsimp only; omega)) _ | refine bl_then ?_ (by assumption)))) (by simp (maxDischargeDepth := 9) [facts, cellsAt, apart, go_sem, *]; try omega) (by have hlow := S2.out.lows; simp only [low, and_true] at hlow; have hsz := S2.out.bl.size; simp [low]; try omega) (by refine ⟨(by repeat (first | exact S2.out.rb 1 rfl | refine RB.lay ?_ _ | refine RS.drewN ?_ _ | refine RS.drew ?_ | refine RB.put ?_ (by simp (maxDischargeDepth := 9) [go_sem, digitless, *]; done) _)), (by repeat (first | exact S2.out.rb 0 rfl | refine RB.lay ?_ _ | refine RS.drewN ?_ _ | refine RS.drew ?_ | refine RB.put ?_ (by simp (maxDischargeDepth := 9) [go_sem, digitless, *]; done) _)), (by repeat (first | exact S2.out.rb 2 rfl | refine RB.lay ?_ _ | refine RS.drewN ?_ _ | refine RS.drew ?_ | refine RB.put ?_ (by simp (maxDischargeDepth := 9) [go_sem, digitless, *]; done) _)), trivial⟩)⟩⟩
  case round =>
    obtain ⟨l, h, Al, cl, Ah, ch, hk, HI, S3⟩ := hrel
    obtain ⟨q0, q1, q2, q3, q4⟩ := HI.out
    have nl : Asd (nd l ≤ 10000) := ⟨by have := nd_64 q0 (by omega); omega⟩
    have nh : Asd (nd h ≤ 10000) := ⟨by have := nd_64 (show 0 ≤ h by omega) q2; omega⟩
    have nd1 : Asd (nd (h - l) ≤ 10000) := ⟨by have := nd_64 (show 0 ≤ h - l by omega) (by omega); omega⟩
    have nc1 : Asd (nd 1 ≤ 10000) := ⟨Nat.le_trans (nd_le_of (k := 1) (by decide)) (by omega)⟩
    by_cases hgo : 1 < h - l
    · have HC := Asd.mk (cmpZ_gt hgo)
      obtain ⟨M, hM⟩ : ∃ M, M = (l + h) / 2 := ⟨_, rfl⟩
      have HM := Asd.mk hM
      have hM1 : l < M := by omega
      have hM2 : M < h := by omega
      have ns : Asd (nd (l + h) ≤ 5000) := ⟨by have h1 := nd_64 q0 (by omega); have h2 := nd_64 (show 0 ≤ h by omega) q2; have := nd_add l h; omega⟩
      have nm : Asd (nd M ≤ 10000) := ⟨by have := nd_64 (show 0 ≤ M by omega) (by omega); omega⟩
      have nmm : Asd (nd (M * M) ≤ 10000) := ⟨by have h1 := nd_64 (show 0 ≤ M by omega) (by omega); have := nd_mul M M; omega⟩
      have HD := Asd.mk (fun (A' B' : Option Addr) (c' d' : Nat) (W : World) (h1 : RB W A' c' (l + h)) (h2 : RB W B' d' 2) => ref_Div_two (l + h) A' B' c' d' ns.out W h1 h2)
      rw [← hM] at HD
      have HMI := Asd.mk (show l < M ∧ M < h from ⟨hM1, hM2⟩)
      have HK := Asd.mk hk
      by_cases hup : a < M * M
      · have HT := Asd.mk hup
        have HZ := Asd.mk (cmpZ_gt hup)
        clear hup hM hM1 hM2 hk hgo
        have C3 := S3.out.facts
        simp only [facts, apart, cellsAt, Nat.zero_add, Nat.reduceAdd, and_true] at C3
        go_wp2_with (first
      | (go_at_call 43; replace S8 := S8; refine (HD.out A7 A8 c7 c8 _ (by exact RB.below (S8.out.rb 1 rfl) (by with_reducible repeat (first | exact Below.refl _ _ | refine bl_alloc ?_ _ | refine bl_drewN ?_ _ | refine bl_drew ?_))) (by exact RB.below (S8.out.rb 0 rfl) (by with_reducible repeat (first | exact Below.refl _ _ | refine bl_alloc ?_ _ | refine bl_drewN ?_ _ | refine bl_drew ?_)))).mono ?_; rintro e w9 ⟨A9, c9, rfl, hr9, hb9⟩; apply St.stepB (w0 := w) (hb := hb9) (hr := hr9); (focus (with_reducible repeat (first | exact S8.out | apply St.lay | apply St.drew | apply St.drewN))); intro S9; (try simp only [sz_alloc, sz_drew, sz_drewN] at S9); clear hr9 hb9 S8; (try clear C8); have C9 := S9.out.facts; simp only [facts, apart, cellsAt, Nat.zero_add, Nat.reduceAdd, and_true] at C9)
      | (go_at_call 41; replace S7 := S7; refine (ref_Of 2 I2.out _).mono ?_; rintro e w8 ⟨A8, c8, rfl, hr8, hb8⟩; apply St.stepB (w0 := w) (hb := hb8) (hr := hr8); (focus (with_reducible repeat (first | exact S7.out | apply St.lay | apply St.drew | apply St.drewN))); intro S8; (try simp only [sz_alloc, sz_drew, sz_drewN] at S8); clear hr8 hb8 S7; (try clear C7); have C8 := S8.out.facts; simp only [facts, apart, cellsAt, Nat.zero_add, Nat.reduceAdd, and_true] at C8)
      | (go_at_call 46; replace S6 := S6; refine (ref_Add l h Al Ah cl ch nl.out nh.out _ (by exact RB.below (S6.out.rb 2 rfl) (by with_reducible repeat (first | exact Below.refl _ _ | refine bl_alloc ?_ _ | refine bl_drewN ?_ _ | refine bl_drew ?_))) (by exact RB.below (S6.out.rb 3 rfl) (by with_reducible repeat (first | exact Below.refl _ _ | refine bl_alloc ?_ _ | refine bl_drewN ?_ _ | refine bl_drew ?_)))).mono ?_; rintro e w7 ⟨A7, c7, rfl, hr7, hb7⟩; apply St.stepB (w0 := w) (hb := hb7) (hr := hr7); (focus (with_reducible repeat (first | exact S6.out | apply St.lay | apply St.drew | apply St.drewN))); intro S7; (try simp only [sz_alloc, sz_drew, sz_drewN] at S7); clear hr7 hb7 S6; (try clear C6); have C7 := S7.out.facts; simp only [facts, apart, cellsAt, Nat.zero_add, Nat.reduceAdd, and_true] at C7)
      | (go_at_call 49; replace S5 := S5; refine (ref_Cmp (h - l) 1 A4 A5 c4 c5 nd1.out nc1.out _ (by exact RB.below (S5.out.rb 1 rfl) (by with_reducible repeat (first | exact Below.refl _ _ | refine bl_alloc ?_ _ | refine bl_drewN ?_ _ | refine bl_drew ?_))) (by exact RB.below (S5.out.rb 0 rfl) (by with_reducible repeat (first | exact Below.refl _ _ | refine bl_alloc ?_ _ | refine bl_drewN ?_ _ | refine bl_drew ?_)))).mono ?_; rintro e w6 ⟨rfl, hb6⟩; rw [HC.out]; apply St.step (w0 := w) (hb := hb6); (focus (with_reducible repeat (first | exact S5.out | apply St.lay | apply St.drew | apply St.drewN))); intro S6; (try simp only [sz_alloc, sz_drew, sz_drewN] at S6); clear hb6 S5; (try clear C5); have C6 := S6.out.facts; simp only [facts, apart, cellsAt, Nat.zero_add, Nat.reduceAdd, and_true] at C6)
      | (go_at_call 41; replace S4 := S4; refine (ref_Of 1 I1.out _).mono ?_; rintro e w5 ⟨A5, c5, rfl, hr5, hb5⟩; apply St.stepB (w0 := w) (hb := hb5) (hr := hr5); (focus (with_reducible repeat (first | exact S4.out | apply St.lay | apply St.drew | apply St.drewN))); intro S5; (try simp only [sz_alloc, sz_drew, sz_drewN] at S5); clear hr5 hb5 S4; (try clear C4); have C5 := S5.out.facts; simp only [facts, apart, cellsAt, Nat.zero_add, Nat.reduceAdd, and_true] at C5)
      | (go_at_call 47; replace S3 := S3; refine (ref_Sub h l Ah Al ch cl nh.out nl.out _ (by exact RB.below (S3.out.rb 1 rfl) (by with_reducible repeat (first | exact Below.refl _ _ | refine bl_alloc ?_ _ | refine bl_drewN ?_ _ | refine bl_drew ?_))) (by exact RB.below (S3.out.rb 0 rfl) (by with_reducible repeat (first | exact Below.refl _ _ | refine bl_alloc ?_ _ | refine bl_drewN ?_ _ | refine bl_drew ?_)))).mono ?_; rintro e w4 ⟨A4, c4, rfl, hr4, hb4⟩; apply St.stepB (w0 := w) (hb := hb4) (hr := hr4); (focus (with_reducible repeat (first | exact S3.out | apply St.lay | apply St.drew | apply St.drewN))); intro S4; (try simp only [sz_alloc, sz_drew, sz_drewN] at S4); clear hr4 hb4 S3; (try clear C3); have C4 := S4.out.facts; simp only [facts, apart, cellsAt, Nat.zero_add, Nat.reduceAdd, and_true] at C4))
        go_region_held3 (fun w' => w'.cell? ⟨w9.heap.size, 0, none⟩ = some (.bool (sg M)) ∧ w'.cell? ⟨w9.heap.size, 1, none⟩ = some (.slice A9 (nd M) c9) ∧ w'.cell? ⟨w.heap.size, 0, none⟩ = some (.bool (sg a)) ∧ w'.cell? ⟨w.heap.size, 1, none⟩ = some (.slice A (nd a) c))
    (first | (simp [go_sem, *]; done) | (simp (maxDischargeDepth := 9) [go_sem, *]; done))
    (first
      | (go_at_call 49; replace S10 := S10; refine (ref_Cmp (M * M) a A10 A c10 c nmm.out na.out _ (by exact RB.below (S10.out.rb 0 rfl) (by with_reducible repeat (first | exact Below.refl _ _ | refine bl_alloc ?_ _ | refine bl_drewN ?_ _ | refine bl_drew ?_))) (by exact RB.below (S10.out.rb 8 rfl) (by with_reducible repeat (first | exact Below.refl _ _ | refine bl_alloc ?_ _ | refine bl_drewN ?_ _ | refine bl_drew ?_)))).mono ?_; rintro e w11 ⟨rfl, hb11⟩; rw [HZ.out]; apply St.step (w0 := w) (hb := hb11); (focus (with_reducible repeat (first | exact S10.out | apply St.lay | apply St.drew | apply St.drewN))); intro S11; (try simp only [sz_alloc, sz_drew, sz_drewN] at S11); clear hb11 S10; (try clear C10); have C11 := S11.out.facts; simp only [facts, apart, cellsAt, Nat.zero_add, Nat.reduceAdd, and_true] at C11)
      | (go_at_call 52; replace S9 := S9; refine (ref_Mul M M A9 A9 c9 c9 nm.out nm.out _ (by exact RB.below (S9.out.rb 0 rfl) (by with_reducible repeat (first | exact Below.refl _ _ | refine bl_alloc ?_ _ | refine bl_drewN ?_ _ | refine bl_drew ?_))) (by exact RB.below (S9.out.rb 0 rfl) (by with_reducible repeat (first | exact Below.refl _ _ | refine bl_alloc ?_ _ | refine bl_drewN ?_ _ | refine bl_drew ?_)))).mono ?_; rintro e w10 ⟨A10, c10, rfl, hr10, hb10⟩; apply St.stepB (w0 := w) (hb := hb10) (hr := hr10); (focus (with_reducible repeat (first | exact S9.out | apply St.lay | apply St.drew | apply St.drewN))); intro S10; (try simp only [sz_alloc, sz_drew, sz_drewN] at S10); clear hr10 hb10 S9; (try clear C9); have C10 := S10.out.facts; simp only [facts, apart, cellsAt, Nat.zero_add, Nat.reduceAdd, and_true] at C10))
        go_wp2
        go_roundg (M - l).toNat
        case rel => exact ⟨l, M, Al, cl, A9, c9, Nat.le_refl _, ⟨⟨q0, HMI.out.1, by have := HMI.out.2; omega, q3, HT.out⟩⟩, ⟨St.less (St.set (St.set S11.out 1 0 rfl (by simp) (.inr rfl) _) 1 1 rfl (by simp) (.inr rfl) _) (List.Sublist.cons _ (List.Sublist.refl _)) (by simp)⟩⟩
        case measure => have h1 := HMI.out; have h2 := HK.out; omega
      · have HT := Asd.mk (show M * M ≤ a by omega)
        obtain ⟨z, hz, hz0⟩ : ∃ z, cmpZ (M * M) a = z ∧ z ≤ 0 := ⟨_, rfl, by unfold cmpZ; split; omega; split <;> omega⟩
        have HZ := Asd.mk hz
        clear hup hz hM hM1 hM2 hk hgo
        have C3 := S3.out.facts
        simp only [facts, apart, cellsAt, Nat.zero_add, Nat.reduceAdd, and_true] at C3
        go_wp2_with (first
      | (go_at_call 43; replace S8 := S8; refine (HD.out A7 A8 c7 c8 _ (by exact RB.below (S8.out.rb 1 rfl) (by with_reducible repeat (first | exact Below.refl _ _ | refine bl_alloc ?_ _ | refine bl_drewN ?_ _ | refine bl_drew ?_))) (by exact RB.below (S8.out.rb 0 rfl) (by with_reducible repeat (first | exact Below.refl _ _ | refine bl_alloc ?_ _ | refine bl_drewN ?_ _ | refine bl_drew ?_)))).mono ?_; rintro e w9 ⟨A9, c9, rfl, hr9, hb9⟩; apply St.stepB (w0 := w) (hb := hb9) (hr := hr9); (focus (with_reducible repeat (first | exact S8.out | apply St.lay | apply St.drew | apply St.drewN))); intro S9; (try simp only [sz_alloc, sz_drew, sz_drewN] at S9); clear hr9 hb9 S8; (try clear C8); have C9 := S9.out.facts; simp only [facts, apart, cellsAt, Nat.zero_add, Nat.reduceAdd, and_true] at C9)
      | (go_at_call 41; replace S7 := S7; refine (ref_Of 2 I2.out _).mono ?_; rintro e w8 ⟨A8, c8, rfl, hr8, hb8⟩; apply St.stepB (w0 := w) (hb := hb8) (hr := hr8); (focus (with_reducible repeat (first | exact S7.out | apply St.lay | apply St.drew | apply St.drewN))); intro S8; (try simp only [sz_alloc, sz_drew, sz_drewN] at S8); clear hr8 hb8 S7; (try clear C7); have C8 := S8.out.facts; simp only [facts, apart, cellsAt, Nat.zero_add, Nat.reduceAdd, and_true] at C8)
      | (go_at_call 46; replace S6 := S6; refine (ref_Add l h Al Ah cl ch nl.out nh.out _ (by exact RB.below (S6.out.rb 2 rfl) (by with_reducible repeat (first | exact Below.refl _ _ | refine bl_alloc ?_ _ | refine bl_drewN ?_ _ | refine bl_drew ?_))) (by exact RB.below (S6.out.rb 3 rfl) (by with_reducible repeat (first | exact Below.refl _ _ | refine bl_alloc ?_ _ | refine bl_drewN ?_ _ | refine bl_drew ?_)))).mono ?_; rintro e w7 ⟨A7, c7, rfl, hr7, hb7⟩; apply St.stepB (w0 := w) (hb := hb7) (hr := hr7); (focus (with_reducible repeat (first | exact S6.out | apply St.lay | apply St.drew | apply St.drewN))); intro S7; (try simp only [sz_alloc, sz_drew, sz_drewN] at S7); clear hr7 hb7 S6; (try clear C6); have C7 := S7.out.facts; simp only [facts, apart, cellsAt, Nat.zero_add, Nat.reduceAdd, and_true] at C7)
      | (go_at_call 49; replace S5 := S5; refine (ref_Cmp (h - l) 1 A4 A5 c4 c5 nd1.out nc1.out _ (by exact RB.below (S5.out.rb 1 rfl) (by with_reducible repeat (first | exact Below.refl _ _ | refine bl_alloc ?_ _ | refine bl_drewN ?_ _ | refine bl_drew ?_))) (by exact RB.below (S5.out.rb 0 rfl) (by with_reducible repeat (first | exact Below.refl _ _ | refine bl_alloc ?_ _ | refine bl_drewN ?_ _ | refine bl_drew ?_)))).mono ?_; rintro e w6 ⟨rfl, hb6⟩; rw [HC.out]; apply St.step (w0 := w) (hb := hb6); (focus (with_reducible repeat (first | exact S5.out | apply St.lay | apply St.drew | apply St.drewN))); intro S6; (try simp only [sz_alloc, sz_drew, sz_drewN] at S6); clear hb6 S5; (try clear C5); have C6 := S6.out.facts; simp only [facts, apart, cellsAt, Nat.zero_add, Nat.reduceAdd, and_true] at C6)
      | (go_at_call 41; replace S4 := S4; refine (ref_Of 1 I1.out _).mono ?_; rintro e w5 ⟨A5, c5, rfl, hr5, hb5⟩; apply St.stepB (w0 := w) (hb := hb5) (hr := hr5); (focus (with_reducible repeat (first | exact S4.out | apply St.lay | apply St.drew | apply St.drewN))); intro S5; (try simp only [sz_alloc, sz_drew, sz_drewN] at S5); clear hr5 hb5 S4; (try clear C4); have C5 := S5.out.facts; simp only [facts, apart, cellsAt, Nat.zero_add, Nat.reduceAdd, and_true] at C5)
      | (go_at_call 47; replace S3 := S3; refine (ref_Sub h l Ah Al ch cl nh.out nl.out _ (by exact RB.below (S3.out.rb 1 rfl) (by with_reducible repeat (first | exact Below.refl _ _ | refine bl_alloc ?_ _ | refine bl_drewN ?_ _ | refine bl_drew ?_))) (by exact RB.below (S3.out.rb 0 rfl) (by with_reducible repeat (first | exact Below.refl _ _ | refine bl_alloc ?_ _ | refine bl_drewN ?_ _ | refine bl_drew ?_)))).mono ?_; rintro e w4 ⟨A4, c4, rfl, hr4, hb4⟩; apply St.stepB (w0 := w) (hb := hb4) (hr := hr4); (focus (with_reducible repeat (first | exact S3.out | apply St.lay | apply St.drew | apply St.drewN))); intro S4; (try simp only [sz_alloc, sz_drew, sz_drewN] at S4); clear hr4 hb4 S3; (try clear C3); have C4 := S4.out.facts; simp only [facts, apart, cellsAt, Nat.zero_add, Nat.reduceAdd, and_true] at C4))
        go_region_held3 (fun w' => w'.cell? ⟨w9.heap.size, 0, none⟩ = some (.bool (sg M)) ∧ w'.cell? ⟨w9.heap.size, 1, none⟩ = some (.slice A9 (nd M) c9) ∧ w'.cell? ⟨w.heap.size, 0, none⟩ = some (.bool (sg a)) ∧ w'.cell? ⟨w.heap.size, 1, none⟩ = some (.slice A (nd a) c))
    (first | (simp [go_sem, *]; done) | (simp (maxDischargeDepth := 9) [go_sem, *]; done))
    (first
      | (go_at_call 49; replace S10 := S10; refine (ref_Cmp (M * M) a A10 A c10 c nmm.out na.out _ (by exact RB.below (S10.out.rb 0 rfl) (by with_reducible repeat (first | exact Below.refl _ _ | refine bl_alloc ?_ _ | refine bl_drewN ?_ _ | refine bl_drew ?_))) (by exact RB.below (S10.out.rb 8 rfl) (by with_reducible repeat (first | exact Below.refl _ _ | refine bl_alloc ?_ _ | refine bl_drewN ?_ _ | refine bl_drew ?_)))).mono ?_; rintro e w11 ⟨rfl, hb11⟩; rw [HZ.out]; apply St.step (w0 := w) (hb := hb11); (focus (with_reducible repeat (first | exact S10.out | apply St.lay | apply St.drew | apply St.drewN))); intro S11; (try simp only [sz_alloc, sz_drew, sz_drewN] at S11); clear hb11 S10; (try clear C10); have C11 := S11.out.facts; simp only [facts, apart, cellsAt, Nat.zero_add, Nat.reduceAdd, and_true] at C11)
      | (go_at_call 52; replace S9 := S9; refine (ref_Mul M M A9 A9 c9 c9 nm.out nm.out _ (by exact RB.below (S9.out.rb 0 rfl) (by with_reducible repeat (first | exact Below.refl _ _ | refine bl_alloc ?_ _ | refine bl_drewN ?_ _ | refine bl_drew ?_))) (by exact RB.below (S9.out.rb 0 rfl) (by with_reducible repeat (first | exact Below.refl _ _ | refine bl_alloc ?_ _ | refine bl_drewN ?_ _ | refine bl_drew ?_)))).mono ?_; rintro e w10 ⟨A10, c10, rfl, hr10, hb10⟩; apply St.stepB (w0 := w) (hb := hb10) (hr := hr10); (focus (with_reducible repeat (first | exact S9.out | apply St.lay | apply St.drew | apply St.drewN))); intro S10; (try simp only [sz_alloc, sz_drew, sz_drewN] at S10); clear hr10 hb10 S9; (try clear C9); have C10 := S10.out.facts; simp only [facts, apart, cellsAt, Nat.zero_add, Nat.reduceAdd, and_true] at C10))
        go_wp2
        go_roundg (h - M).toNat
        case rel => exact ⟨M, h, A9, c9, Ah, ch, Nat.le_refl _, ⟨⟨by have := HMI.out.1; omega, HMI.out.2, q2, HT.out, q4⟩⟩, ⟨St.less (St.set (St.set S11.out 2 0 rfl (by simp) (.inr rfl) _) 2 1 rfl (by simp) (.inr rfl) _) (List.Sublist.cons _ (List.Sublist.refl _)) (by simp)⟩⟩
        case measure => have h1 := HMI.out; have h2 := HK.out; omega
    · have e1 : h - l = 1 := by omega
      have HC := Asd.mk (cmpZ_self 1)
      have HR := Asd.mk (rt_uniq (a := a) (r := l) q0 q3 (by rw [show l + 1 = h by omega]; exact q4))
      have HE := Asd.mk e1
      have HS := Asd.mk (fun (W : World) (h1 : RB W Ah ch h) (h2 : RB W Al cl l) => ref_Sub h l Ah Al ch cl nh.out nl.out W h1 h2)
      rw [e1] at HS
      clear hgo e1 hk
      have C3 := S3.out.facts
      simp only [facts, apart, cellsAt, Nat.zero_add, Nat.reduceAdd, and_true] at C3
      go_wp2_with (first
      | (go_at_call 49; replace S5 := S5; refine (ref_Cmp 1 1 A4 A5 c4 c5 nc1.out nc1.out _ (by exact RB.below (S5.out.rb 1 rfl) (by with_reducible repeat (first | exact Below.refl _ _ | refine bl_alloc ?_ _ | refine bl_drewN ?_ _ | refine bl_drew ?_))) (by exact RB.below (S5.out.rb 0 rfl) (by with_reducible repeat (first | exact Below.refl _ _ | refine bl_alloc ?_ _ | refine bl_drewN ?_ _ | refine bl_drew ?_)))).mono ?_; rintro e w6 ⟨rfl, hb6⟩; rw [HC.out]; apply St.step (w0 := w) (hb := hb6); (focus (with_reducible repeat (first | exact S5.out | apply St.lay | apply St.drew | apply St.drewN))); intro S6; (try simp only [sz_alloc, sz_drew, sz_drewN] at S6); clear hb6 S5; (try clear C5); have C6 := S6.out.facts; simp only [facts, apart, cellsAt, Nat.zero_add, Nat.reduceAdd, and_true] at C6)
      | (go_at_call 41; replace S4 := S4; refine (ref_Of 1 I1.out _).mono ?_; rintro e w5 ⟨A5, c5, rfl, hr5, hb5⟩; apply St.stepB (w0 := w) (hb := hb5) (hr := hr5); (focus (with_reducible repeat (first | exact S4.out | apply St.lay | apply St.drew | apply St.drewN))); intro S5; (try simp only [sz_alloc, sz_drew, sz_drewN] at S5); clear hr5 hb5 S4; (try clear C4); have C5 := S5.out.facts; simp only [facts, apart, cellsAt, Nat.zero_add, Nat.reduceAdd, and_true] at C5)
      | (go_at_call 47; replace S3 := S3; refine (HS.out _ (by exact RB.below (S3.out.rb 1 rfl) (by with_reducible repeat (first | exact Below.refl _ _ | refine bl_alloc ?_ _ | refine bl_drewN ?_ _ | refine bl_drew ?_))) (by exact RB.below (S3.out.rb 0 rfl) (by with_reducible repeat (first | exact Below.refl _ _ | refine bl_alloc ?_ _ | refine bl_drewN ?_ _ | refine bl_drew ?_)))).mono ?_; rintro e w4 ⟨A4, c4, rfl, hr4, hb4⟩; apply St.stepB (w0 := w) (hb := hb4) (hr := hr4); (focus (with_reducible repeat (first | exact S3.out | apply St.lay | apply St.drew | apply St.drewN))); intro S4; (try simp only [sz_alloc, sz_drew, sz_drewN] at S4); clear hr4 hb4 S3; (try clear C3); have C4 := S4.out.facts; simp only [facts, apart, cellsAt, Nat.zero_add, Nat.reduceAdd, and_true] at C4))
      have S7 := (St.set (St.set S6.out 2 0 rfl (by simp) (.inr rfl) (.bool (sg l))) 2 1 rfl (by simp) (.inr rfl) (.slice Al (nd l) cl))
      rw [HR.out]
      refine bodyPost_ret (v := .agg #[.bool (sg l), .slice Al (nd l) cl]) (by simp (maxDischargeDepth := 9) [results, Tryd.results63, go_sem, *]) rfl ⟨_, _, rfl, S7.rb 2 rfl, S7.bl⟩
end Go.Proofs.YtgodfbhjfhdihaaDoor
