/- Walks of the reference's big numbers, twelfth part: the quotient, rounded down. -/
import Derived.Test.YtgodfbhjfhdihaaDoorRl
import Derived.Test.YtgodfbhjfhdihaaDoorRm
namespace Go.Proofs.YtgodfbhjfhdihaaDoor
open Go.RowKit
attribute [local go_sem] nlt2 nlt3 nlt4 nlt5 nlt6 nlt7 nlt8 nlt9 nlt10 nlt11 nlt12

theorem V5.drew {w W : World} {u0 v0 u1 v1 u2 v2 u3 v3 u4 v4 : Value} (h : V5 w W u0 v0 u1 v1 u2 v2 u3 v3 u4 v4) : V5 w W.drew u0 v0 u1 v1 u2 v2 u3 v3 u4 v4 := ⟨bl_drew h.1, h.2⟩
theorem nd_one : nd 1 ≤ 10000 := Nat.le_trans (nd_le_of (k := 1) (by decide)) (by omega)
theorem rem_lt {L Y b : Int} (h : L = Y % b) (hb : 0 < b) (_hY : 0 ≤ Y) : 0 ≤ L ∧ L < b := by
  rw [h]; exact ⟨Int.emod_nonneg _ (by omega), Int.emod_lt_of_pos _ hb⟩
theorem quo_le {a Q b : Int} (k : Nat) (h : Q = up2 a k / b) (hb : 0 < b) : 0 ≤ Q ∧ Q ≤ a.natAbs := by
  have h0 := up2_nonneg a k
  have h1 : up2 a k ≤ a.natAbs := Int.ediv_le_self _ (by omega)
  rw [h]
  exact ⟨Int.ediv_nonneg h0 (by omega), Int.le_trans (Int.ediv_le_self _ h0) h1⟩
set_option maxRecDepth 100000 in
set_option maxHeartbeats 8000000 in
theorem ref_Down (a b : Int) (A B : Option Addr) (c d : Nat) (hb : 0 < b) (ha : nd a ≤ 5000) (hnb : nd b ≤ 5000) (w : World) (hA : RB w A c a) (hB : RB w B d b) :
    Calls Tryd.prog 74 #[.agg #[.bool (sg a), .slice A (nd a) c], .agg #[.bool (sg b), .slice B (nd b) d]] w (BigR w (a / b)) := by
  have HA := Asd.mk hA
  have HB := Asd.mk hB
  clear hA hB
  go_enter Tryd.func74, Tryd.ntmps74
  go_wp2
  go_loopw [7] (fun v7 wr => ∃ (k : Nat) (Q L : Int) (Aq Al : Option Addr) (cq cl : Nat), k ≤ 16 * nd a ∧ v7 = .int .i64 (k - 1) ∧ Asd (Q = up2 a k / b ∧ L = up2 a k % b) ∧
    V5 w wr (.bool (sg a)) (.slice A (nd a) c) (.bool (sg b)) (.slice B (nd b) d) (.bool false) (.slice none 0 0) (.bool (sg Q)) (.slice Aq (nd Q) cq) (.bool (sg L)) (.slice Al (nd L) cl) ∧ Asd (RB wr Aq cq Q) ∧ Asd (RB wr Al cl L)) (fun v7 _ => (intOf v7 + 1).toNat)
  case atStart =>
    have e0 : RB w none 0 0 := ⟨by simp [dg, digs_zero], by omega, fun _ => rfl, fun h => by simp [dg, digs_zero] at h⟩
    refine ⟨16 * nd a, 0, 0, none, none, 0, 0, Nat.le_refl _, by go_num, ⟨by rw [up2_top]; simp, by rw [up2_top]; simp⟩, ⟨(by repeat (first | exact Below.refl _ _ | assumption | refine bl_alloc ?_ _ | refine bl_drewN ?_ _ | refine bl_drew ?_ | refine bl_set ?_ (by first | (simp; done) | (simp; omega) | (dsimp only; omega)) _ | refine bl_then ?_ (by assumption))), by simp, by simp [Bx, go_sem], by simp [Bx, go_sem], by simp [Bx, go_sem], ?_, ?_⟩, ⟨e0.below (by repeat (first | exact Below.refl _ _ | assumption | refine bl_alloc ?_ _ | refine bl_drewN ?_ _ | refine bl_drew ?_ | refine bl_set ?_ (by first | (simp; done) | (simp; omega) | (dsimp only; omega)) _ | refine bl_then ?_ (by assumption)))⟩, ⟨e0.below (by repeat (first | exact Below.refl _ _ | assumption | refine bl_alloc ?_ _ | refine bl_drewN ?_ _ | refine bl_drew ?_ | refine bl_set ?_ (by first | (simp; done) | (simp; omega) | (dsimp only; omega)) _ | refine bl_then ?_ (by assumption)))⟩⟩
    all_goals (rw [show sg 0 = false from rfl, show nd 0 = 0 by simp [nd, dg, digs_zero]]; simp [Bx, go_sem])
  case round =>
    obtain ⟨k, Q, L, Aq, Al, cq, cl, hk, rfl, HE, HV, HQ, HLl⟩ := hrel
    obtain ⟨HBw, hz, ⟨x0, x1, x2, x3⟩, ⟨y0, y1, y2, y3⟩, ⟨p0, p1, p2, p3⟩, ⟨q0, q1, q2, q3⟩, ⟨l0, l1, l2, l3⟩⟩ := id HV
    have HVV := Asd.mk HV
    clear HV
    by_cases hgo : 0 < k
    · obtain ⟨m, rfl⟩ : ∃ m, k = m + 1 := ⟨k - 1, by omega⟩
      rw [show (((m + 1 : Nat) : Int) - 1) = (m : Int) from by omega]
      obtain ⟨ba, rfl, hba, hca⟩ := (RB.below HA.out HBw).at (m / 16) (by show m / 16 < nd a; omega)
      have hm0 : (0 : Int) ≤ (m : Int) / 16 := by omega
      have hm1 : (m : Int) / 16 < nd a := by omega
      have hm2 : (m : Int) ≤ 1000000 := by omega
      go_wp2
      go_loop [8, 9] (fun v8 v9 => ∃ (j : Nat) (x : Int), j ≤ m % 16 ∧ v9 = .int .i64 j ∧ v8 = .int .u64 x ∧ 0 ≤ x ∧ Asd (x < 65536 ∧ x = gd (dg a) (m / 16) / pow2 j)) (fun _ v9 => m % 16 - (intOf v9).toNat)
      case atStart =>
        have hg := gd_bd (dg_Dg a) (m / 16)
        exact ⟨0, _, by omega, rfl, rfl, hg.1, ⟨hg.2, by simp [pow2]⟩⟩
      case round =>
        obtain ⟨j, x, hj, rfl, rfl, hx0, HX⟩ := hrel
        by_cases hlt : j < m % 16
        · go_wp2
          go_round
          case rel =>
            obtain ⟨hx1, hx2⟩ := HX.out
            refine ⟨j + 1, x / 2, by omega, by go_num, ?_, by omega, ⟨by omega, ?_⟩⟩
            · congr 1; rw [Int.tdiv_eq_ediv_of_nonneg hx0, IntKind.wrap_u64]; omega
            · rw [hx2]; exact (dn_succ _ _).symm
          case measure => simp [intOf]; omega
        · obtain rfl : j = m % 16 := by omega
          obtain ⟨t, ht⟩ : ∃ t, t = up2 a m % 2 := ⟨_, rfl⟩
          have hxt : x % 2 = t := by rw [HX.out.2, ht]; exact bit_digit a m
          have ht01 : t = 0 ∨ t = 1 := by omega
          have HT := Asd.mk ht
          have HT01 := Asd.mk ht01
          have HU : Asd (U64 t) := ⟨by unfold U64; omega⟩
          clear ht ht01 hlt hm0 hm1 hca hba
          have HV0 := HVV.out
          have hnL : Asd (nd L ≤ 6000) := ⟨Nat.le_trans (nd_mono (by have := rem_lt HE.out.2 hb (up2_nonneg a (m + 1)); omega)) (Nat.le_trans hnb (by omega))⟩
          have hnQ : Asd (nd Q ≤ 6000) := ⟨Nat.le_trans (nd_mono (by have := quo_le (a := a) (m + 1) HE.out.1 hb; omega)) (Nat.le_trans ha (by omega))⟩
          have ndt : Asd (nd t ≤ 1) := ⟨nd_le_of (by have := HT01.out; show (t.natAbs : Int) < 65536 ^ 1; omega)⟩
          have HRB0 := Asd.mk (RB.below HB.out HBw)
          go_wp2_with fail
          refine (ref_Add L L Al Al cl cl (by have := hnL.out; omega) (by have := hnL.out; omega) _ HLl.out HLl.out).mono ?_
          rintro e w1 ⟨A1, c1, rfl, hr1, hb1⟩
          have HR1 := Asd.mk hr1
          have HQ1 := Asd.mk (RB.below HQ.out hb1)
          have HRB1 := Asd.mk (RB.below HRB0.out hb1)
          have V1 := Asd.mk (V5.call HV0 hb1)
          clear x0 x1 x2 x3 y0 y1 y2 y3 p0 p1 p2 p3 q0 q1 q2 q3 l0 l1 l2 l3 HBw hz
          clear hr1 hb1 HV0 HVV
          obtain ⟨HBw, hz, ⟨x0, x1, x2, x3⟩, ⟨y0, y1, y2, y3⟩, ⟨p0, p1, p2, p3⟩, ⟨q0, q1, q2, q3⟩, ⟨l0, l1, l2, l3⟩⟩ := id V1.out
          go_wp2_with fail
          refine (ref_nat t HU.out _).mono ?_
          rintro e w2 ⟨A2, c2, rfl, hr2, hb2⟩
          have HR2 := Asd.mk hr2
          have HR1' := Asd.mk (RB.below HR1.out hb2)
          have HQ2 := Asd.mk (RB.below HQ1.out hb2)
          have HRB2 := Asd.mk (RB.below HRB1.out hb2)
          have V2 := Asd.mk (V5.call V1.out hb2)
          clear x0 x1 x2 x3 y0 y1 y2 y3 p0 p1 p2 p3 q0 q1 q2 q3 l0 l1 l2 l3 HBw hz
          clear hr2 hb2
          obtain ⟨HBw, hz, ⟨x0, x1, x2, x3⟩, ⟨y0, y1, y2, y3⟩, ⟨p0, p1, p2, p3⟩, ⟨q0, q1, q2, q3⟩, ⟨l0, l1, l2, l3⟩⟩ := id V2.out
          have hn1 : Asd (nd (L + L) ≤ 7000) := ⟨by have := nd_add L L; have := hnL.out; omega⟩
          go_wp2_with fail
          refine (ref_Add (L + L) t A1 A2 c1 c2 (by have := hn1.out; omega) (by have := ndt.out; omega) _ HR1'.out HR2.out).mono ?_
          rintro e w3 ⟨A3, c3, rfl, hr3, hb3⟩
          obtain ⟨T, hTT⟩ : ∃ T, T = L + L + t := ⟨_, rfl⟩
          rw [← hTT] at hr3 ⊢
          have HTT := Asd.mk hTT
          have hn3 : Asd (nd T ≤ 8000) := ⟨by have := nd_add (L + L) t; have := hn1.out; have := ndt.out; rw [hTT]; omega⟩
          clear hTT
          have HR3 := Asd.mk hr3
          have HQ3 := Asd.mk (RB.below HQ2.out hb3)
          have HRB3 := Asd.mk (RB.below HRB2.out hb3)
          have V3 := Asd.mk (V5.call V2.out hb3)
          clear x0 x1 x2 x3 y0 y1 y2 y3 p0 p1 p2 p3 q0 q1 q2 q3 l0 l1 l2 l3 HBw hz
          clear hr3 hb3
          obtain ⟨HBw, hz, ⟨x0, x1, x2, x3⟩, ⟨y0, y1, y2, y3⟩, ⟨p0, p1, p2, p3⟩, ⟨q0, q1, q2, q3⟩, ⟨l0, l1, l2, l3⟩⟩ := id V3.out
          go_wp2_with fail
          have V4 := Asd.mk (V5.set4 V3.out (.bool (sg T)) (.slice A3 (nd T) c3))
          have HT4 : Asd (RB ((w3.setCell ⟨w.heap.size + 1 + 1 + 1 + 1, 0, none⟩ (.bool (sg T))).setCell ⟨w.heap.size + 1 + 1 + 1 + 1, 1, none⟩ (.slice A3 (nd T) c3)) A3 c3 T) := ⟨RB.store2 HR3.out l0⟩
          have HQ4 : Asd (RB ((w3.setCell ⟨w.heap.size + 1 + 1 + 1 + 1, 0, none⟩ (.bool (sg T))).setCell ⟨w.heap.size + 1 + 1 + 1 + 1, 1, none⟩ (.slice A3 (nd T) c3)) Aq cq Q) := ⟨RB.store2 HQ3.out l0⟩
          have HRB4 : Asd (RB ((w3.setCell ⟨w.heap.size + 1 + 1 + 1 + 1, 0, none⟩ (.bool (sg T))).setCell ⟨w.heap.size + 1 + 1 + 1 + 1, 1, none⟩ (.slice A3 (nd T) c3)) B d b) := ⟨RB.store2 HRB3.out l0⟩
          clear x0 x1 x2 x3 y0 y1 y2 y3 p0 p1 p2 p3 q0 q1 q2 q3 l0 l1 l2 l3 HBw hz
          generalize ((w3.setCell ⟨w.heap.size + 1 + 1 + 1 + 1, 0, none⟩ (.bool (sg T))).setCell ⟨w.heap.size + 1 + 1 + 1 + 1, 1, none⟩ (.slice A3 (nd T) c3)) = w4 at V4 HT4 HQ4 HRB4 ⊢
          refine (ref_Add Q Q Aq Aq cq cq (by have := hnQ.out; omega) (by have := hnQ.out; omega) _ HQ4.out HQ4.out).mono ?_
          rintro e w5 ⟨A5, c5, rfl, hr5, hb5⟩
          have HR5 := Asd.mk hr5
          have HT5 := Asd.mk (RB.below HT4.out hb5)
          have HRB5 := Asd.mk (RB.below HRB4.out hb5)
          have VV5 := Asd.mk (V5.call V4.out hb5)
          clear hr5 hb5
          obtain ⟨HBw, hz, ⟨x0, x1, x2, x3⟩, ⟨y0, y1, y2, y3⟩, ⟨p0, p1, p2, p3⟩, ⟨q0, q1, q2, q3⟩, ⟨l0, l1, l2, l3⟩⟩ := id VV5.out
          have hn5 : Asd (nd (Q + Q) ≤ 7000) := ⟨by have := nd_add Q Q; have := hnQ.out; omega⟩
          go_wp2_with fail
          have V6 := Asd.mk (V5.set3 VV5.out (.bool (sg (Q + Q))) (.slice A5 (nd (Q + Q)) c5))
          have HR6 : Asd (RB ((w5.setCell ⟨w.heap.size + 1 + 1 + 1, 0, none⟩ (.bool (sg (Q + Q)))).setCell ⟨w.heap.size + 1 + 1 + 1, 1, none⟩ (.slice A5 (nd (Q + Q)) c5)) A5 c5 (Q + Q)) := ⟨RB.store2 HR5.out q0⟩
          have HT6 : Asd (RB ((w5.setCell ⟨w.heap.size + 1 + 1 + 1, 0, none⟩ (.bool (sg (Q + Q)))).setCell ⟨w.heap.size + 1 + 1 + 1, 1, none⟩ (.slice A5 (nd (Q + Q)) c5)) A3 c3 T) := ⟨RB.store2 HT5.out q0⟩
          have HRB6 : Asd (RB ((w5.setCell ⟨w.heap.size + 1 + 1 + 1, 0, none⟩ (.bool (sg (Q + Q)))).setCell ⟨w.heap.size + 1 + 1 + 1, 1, none⟩ (.slice A5 (nd (Q + Q)) c5)) B d b) := ⟨RB.store2 HRB5.out q0⟩
          clear x0 x1 x2 x3 y0 y1 y2 y3 p0 p1 p2 p3 q0 q1 q2 q3 l0 l1 l2 l3 HBw hz
          generalize ((w5.setCell ⟨w.heap.size + 1 + 1 + 1, 0, none⟩ (.bool (sg (Q + Q)))).setCell ⟨w.heap.size + 1 + 1 + 1, 1, none⟩ (.slice A5 (nd (Q + Q)) c5)) = w6 at V6 HR6 HT6 HRB6 ⊢
          refine (ref_Cmp T b A3 B c3 d (by have := hn3.out; omega) (by omega) _ HT6.out HRB6.out).mono ?_
          rintro e w7 ⟨rfl, hb7⟩
          have HR7 := Asd.mk (RB.below HR6.out hb7)
          have HT7 := Asd.mk (RB.below HT6.out hb7)
          have HRB7 := Asd.mk (RB.below HRB6.out hb7)
          have V7 := Asd.mk (V5.call V6.out hb7)
          clear hb7
          obtain ⟨HBw, hz, ⟨x0, x1, x2, x3⟩, ⟨y0, y1, y2, y3⟩, ⟨p0, p1, p2, p3⟩, ⟨q0, q1, q2, q3⟩, ⟨l0, l1, l2, l3⟩⟩ := id V7.out
          have hup := up2_step a m
          have hds := down_step (X := up2 a m) (Y := up2 a (m + 1)) (bit := up2 a m % 2) hb hup (by have := HT01.out; rw [HT.out] at this; exact this)
          have hTv : T = 2 * (up2 a (m + 1) % b) + up2 a m % 2 := by rw [HTT.out, HE.out.2, HT.out]; omega
          rw [← hTv, ← HE.out.1] at hds
          have HDS := Asd.mk hds
          clear hup hds hTv
          by_cases hlt : T < b
          · have hc : cmpZ T b = -1 := by unfold cmpZ; rw [if_pos hlt]
            obtain ⟨hd1, hd2⟩ := HDS.out.1 hlt
            have hd1 := Asd.mk hd1
            have hd2 := Asd.mk hd2
            rw [hc]
            clear hc hlt
            go_wp2
            go_roundw
            case rel =>
              refine ⟨m, Q + Q, T, A5, A3, c5, c3, by omega, rfl, ⟨?_, ?_⟩, V7.out, HR7, HT7⟩
              · have := hd2.out; omega
              · exact hd1.out.symm
            case measure => simp [intOf]
          · have hc : Asd (0 ≤ cmpZ T b) := ⟨by unfold cmpZ; rw [if_neg hlt]; split <;> omega⟩
            have hc' := hc.out
            obtain ⟨hd1, hd2⟩ := HDS.out.2 hlt
            have hd1 := Asd.mk hd1
            have hd2 := Asd.mk hd2
            clear hlt
            go_wp2_with fail
            refine (ref_Sub T b A3 B c3 d (by have := hn3.out; omega) (by omega) _ HT7.out HRB7.out).mono ?_
            rintro e w8 ⟨A8, c8, rfl, hr8, hb8⟩
            have HR8 := Asd.mk hr8
            have HQ8 := Asd.mk (RB.below HR7.out hb8)
            have V8 := Asd.mk (V5.call V7.out hb8)
            clear x0 x1 x2 x3 y0 y1 y2 y3 p0 p1 p2 p3 q0 q1 q2 q3 l0 l1 l2 l3 HBw hz
            clear hr8 hb8
            obtain ⟨HBw, hz, ⟨x0, x1, x2, x3⟩, ⟨y0, y1, y2, y3⟩, ⟨p0, p1, p2, p3⟩, ⟨q0, q1, q2, q3⟩, ⟨l0, l1, l2, l3⟩⟩ := id V8.out
            go_wp2
            have V9 := Asd.mk (V5.set4 V8.out (.bool (sg (T - b))) (.slice A8 (nd (T - b)) c8))
            have HR9 : Asd (RB ((w8.setCell ⟨w.heap.size + 1 + 1 + 1 + 1, 0, none⟩ (.bool (sg (T - b)))).setCell ⟨w.heap.size + 1 + 1 + 1 + 1, 1, none⟩ (.slice A8 (nd (T - b)) c8)) A8 c8 (T - b)) := ⟨RB.store2 HR8.out l0⟩
            have HQ9 : Asd (RB ((w8.setCell ⟨w.heap.size + 1 + 1 + 1 + 1, 0, none⟩ (.bool (sg (T - b)))).setCell ⟨w.heap.size + 1 + 1 + 1 + 1, 1, none⟩ (.slice A8 (nd (T - b)) c8)) A5 c5 (Q + Q)) := ⟨RB.store2 HQ8.out l0⟩
            clear x0 x1 x2 x3 y0 y1 y2 y3 p0 p1 p2 p3 q0 q1 q2 q3 l0 l1 l2 l3 HBw hz
            generalize ((w8.setCell ⟨w.heap.size + 1 + 1 + 1 + 1, 0, none⟩ (.bool (sg (T - b)))).setCell ⟨w.heap.size + 1 + 1 + 1 + 1, 1, none⟩ (.slice A8 (nd (T - b)) c8)) = w9 at V9 HR9 HQ9 ⊢
            obtain ⟨HBw, hz, ⟨x0, x1, x2, x3⟩, ⟨y0, y1, y2, y3⟩, ⟨p0, p1, p2, p3⟩, ⟨q0, q1, q2, q3⟩, ⟨l0, l1, l2, l3⟩⟩ := id V9.out
            have one : I64 1 := by unfold I64; omega
            have hq2 : Asd (Q + Q + 1 = up2 a m / b) := ⟨by have := hd2.out; omega⟩
            go_region_with (first
              | (go_at_call 41; refine (ref_Of 1 one _).mono ?_; rintro e w10 ⟨A10, c10, rfl, hr10, hb10⟩; have HR10 := Asd.mk hr10; have HQ10 := Asd.mk (RB.below (show RB w9.drew _ _ _ from HQ9.out) hb10); have HL10 := Asd.mk (RB.below (show RB w9.drew _ _ _ from HR9.out) hb10); have V10 := Asd.mk (V5.call (V5.drew V9.out) hb10); clear hr10 hb10; clear x0 x1 x2 x3 y0 y1 y2 y3 p0 p1 p2 p3 q0 q1 q2 q3 l0 l1 l2 l3 HBw hz; obtain ⟨HBw, hz, ⟨x0, x1, x2, x3⟩, ⟨y0, y1, y2, y3⟩, ⟨p0, p1, p2, p3⟩, ⟨q0, q1, q2, q3⟩, ⟨l0, l1, l2, l3⟩⟩ := id V10.out)
              | (go_at_call 46; refine (ref_Add (Q + Q) 1 A5 A10 c5 c10 (by have := hn5.out; omega) (by exact nd_one) _ (by exact HQ10.out) (by exact HR10.out)).mono ?_; rintro e w11 ⟨A11, c11, rfl, hr11, hb11⟩; have HR11 := Asd.mk hr11; have HL11 := Asd.mk (RB.below HL10.out hb11); have V11 := Asd.mk (V5.call V10.out hb11); clear hr11 hb11; clear x0 x1 x2 x3 y0 y1 y2 y3 p0 p1 p2 p3 q0 q1 q2 q3 l0 l1 l2 l3 HBw hz; obtain ⟨HBw, hz, ⟨x0, x1, x2, x3⟩, ⟨y0, y1, y2, y3⟩, ⟨p0, p1, p2, p3⟩, ⟨q0, q1, q2, q3⟩, ⟨l0, l1, l2, l3⟩⟩ := id V11.out))
            all_goals go_wp2
            all_goals (
              go_roundw
              case rel => exact ⟨m, Q + Q + 1, T - b, A11, A8, c11, c8, by omega, rfl, ⟨hq2.out, hd1.out.symm⟩, V5.set3 V11.out _ _, ⟨RB.store2 HR11.out q0⟩, ⟨RB.store2 HL11.out q0⟩⟩
              case measure => simp [intOf])
    · obtain rfl : k = 0 := by omega
      rw [show (((0 : Nat) : Int) - 1) = -1 from by omega]
      have HE1 := Asd.mk (show Q = (a.natAbs : Int) / b by rw [HE.out.1, up2_zero])
      have HE2 := Asd.mk (show L = (a.natAbs : Int) % b by rw [HE.out.2, up2_zero])
      have hq0 : Asd (0 ≤ Q) := ⟨(quo_le 0 HE.out.1 hb).1⟩
      clear hgo hk
      cases hs : sg a
      · have hz1 : a / b = if false = true then -vald (dg Q) else vald (dg Q) := by
          have h1 := sg_false.1 hs; have h2 := HE1.out; have h3 := hq0.out
          rw [vald_dg]; simp; rw [show a = (a.natAbs : Int) from by omega, ← h2]; omega
        have HC := Asd.mk (fun W h => ref_cutB false Aq cq (dg Q) (a / b) (dg_Dg Q) hz1 W h)
        rw [hs] at x0
        clear hz1
        go_wp2_with (go_at_call 75; refine (HC.out _ (by exact HQ.out)).mono ?_; rintro e w1 ⟨rfl, hr1, hb1⟩; have HR1 := Asd.mk hr1; have V1 := Asd.mk (V5.call HVV.out hb1); clear hr1 hb1; clear x0 x1 x2 x3 y0 y1 y2 y3 p0 p1 p2 p3 q0 q1 q2 q3 l0 l1 l2 l3 HBw hz; obtain ⟨HBw, hz, ⟨x0, x1, x2, x3⟩, ⟨y0, y1, y2, y3⟩, ⟨p0, p1, p2, p3⟩, ⟨q0, q1, q2, q3⟩, ⟨l0, l1, l2, l3⟩⟩ := id V1.out)
        refine bodyPost_ret (v := .agg #[.bool (sg (a / b)), .slice Aq (nd (a / b)) cq]) (by simp (maxDischargeDepth := 9) [results, Tryd.results74, go_sem, *]) rfl ⟨_, _, rfl, RB.store2 HR1.out p0, (by repeat (first | exact Below.refl _ _ | assumption | refine bl_alloc ?_ _ | refine bl_drewN ?_ _ | refine bl_drew ?_ | refine bl_set ?_ (by first | (simp; done) | (simp; omega) | (dsimp only; omega)) _ | refine bl_then ?_ (by assumption)))⟩
      · rw [hs] at x0
        have ha0 := sg_true.1 hs
        have hnd := neg_div (a.natAbs : Int) b hb
        rw [show -(a.natAbs : Int) = a from by omega, ← HE1.out, ← HE2.out] at hnd
        have hL0 : Asd (0 ≤ L) := ⟨by rw [HE2.out]; exact Int.emod_nonneg _ (by omega)⟩
        by_cases hl0 : nd L = 0
        · have hz1 : a / b = if true = true then -vald (dg Q) else vald (dg Q) := by
            have h1 := (nd_zero_iff L).1 hl0; have h3 := hq0.out
            rw [h1] at hnd
            rw [vald_dg, hnd.1]; simp; omega
          have HC := Asd.mk (fun W h => ref_cutB true Aq cq (dg Q) (a / b) (dg_Dg Q) hz1 W h)
          clear hz1 hnd
          go_wp2_with (go_at_call 75; refine (HC.out _ (by exact HQ.out)).mono ?_; rintro e w1 ⟨rfl, hr1, hb1⟩; have HR1 := Asd.mk hr1; have V1 := Asd.mk (V5.call HVV.out hb1); clear hr1 hb1; clear x0 x1 x2 x3 y0 y1 y2 y3 p0 p1 p2 p3 q0 q1 q2 q3 l0 l1 l2 l3 HBw hz; obtain ⟨HBw, hz, ⟨x0, x1, x2, x3⟩, ⟨y0, y1, y2, y3⟩, ⟨p0, p1, p2, p3⟩, ⟨q0, q1, q2, q3⟩, ⟨l0, l1, l2, l3⟩⟩ := id V1.out)
          refine bodyPost_ret (v := .agg #[.bool (sg (a / b)), .slice Aq (nd (a / b)) cq]) (by simp (maxDischargeDepth := 9) [results, Tryd.results74, go_sem, *]) rfl ⟨_, _, rfl, RB.store2 HR1.out p0, (by repeat (first | exact Below.refl _ _ | assumption | refine bl_alloc ?_ _ | refine bl_drewN ?_ _ | refine bl_drew ?_ | refine bl_set ?_ (by first | (simp; done) | (simp; omega) | (dsimp only; omega)) _ | refine bl_then ?_ (by assumption)))⟩
        · have hlp : 0 < nd L := by omega
          have hz1 : a / b = if true = true then -vald (dg (Q + 1)) else vald (dg (Q + 1)) := by
            have h1 : L ≠ 0 := fun k => hl0 ((nd_zero_iff L).2 k)
            have h3 := hq0.out; have h4 := hL0.out
            rw [vald_dg, hnd.1, if_pos (by omega)]; simp; omega
          have HC := Asd.mk (fun A' c' W h => ref_cutB true A' c' (dg (Q + 1)) (a / b) (dg_Dg (Q + 1)) hz1 W h)
          have hnQ : Asd (nd Q ≤ 6000) := ⟨Nat.le_trans (nd_mono (by have := quo_le (a := a) 0 HE.out.1 hb; omega)) (Nat.le_trans ha (by omega))⟩
          have one : I64 1 := by unfold I64; omega
          clear hz1 hnd hl0
          go_wp2
          go_region_with (first
            | (go_at_call 41; refine (ref_Of 1 one _).mono ?_; rintro e w10 ⟨A10, c10, rfl, hr10, hb10⟩; have HR10 := Asd.mk hr10; have HQ10 := Asd.mk (RB.below (show RB wr.drew _ _ _ from HQ.out) hb10); have V10 := Asd.mk (V5.call (V5.drew HVV.out) hb10); clear hr10 hb10; clear x0 x1 x2 x3 y0 y1 y2 y3 p0 p1 p2 p3 q0 q1 q2 q3 l0 l1 l2 l3 HBw hz; obtain ⟨HBw, hz, ⟨x0, x1, x2, x3⟩, ⟨y0, y1, y2, y3⟩, ⟨p0, p1, p2, p3⟩, ⟨q0, q1, q2, q3⟩, ⟨l0, l1, l2, l3⟩⟩ := id V10.out)
            | (go_at_call 46; refine (ref_Add Q 1 Aq A10 cq c10 (by have := hnQ.out; omega) (by exact nd_one) _ (by exact HQ10.out) (by exact HR10.out)).mono ?_; rintro e w11 ⟨A11, c11, rfl, hr11, hb11⟩; have HR11 := Asd.mk hr11; have V11 := Asd.mk (V5.call V10.out hb11); clear hr11 hb11; clear x0 x1 x2 x3 y0 y1 y2 y3 p0 p1 p2 p3 q0 q1 q2 q3 l0 l1 l2 l3 HBw hz; obtain ⟨HBw, hz, ⟨x0, x1, x2, x3⟩, ⟨y0, y1, y2, y3⟩, ⟨p0, p1, p2, p3⟩, ⟨q0, q1, q2, q3⟩, ⟨l0, l1, l2, l3⟩⟩ := id V11.out))
          all_goals (
            rw [hs] at x0
            go_wp2_with fail
            have V12 := Asd.mk (V5.set3 V11.out (.bool (sg (Q + 1))) (.slice A11 (nd (Q + 1)) c11))
            have HR12 : Asd (RB ((w11.setCell ⟨w.heap.size + 1 + 1 + 1, 0, none⟩ (.bool (sg (Q + 1)))).setCell ⟨w.heap.size + 1 + 1 + 1, 1, none⟩ (.slice A11 (nd (Q + 1)) c11)) A11 c11 (Q + 1)) := ⟨RB.store2 HR11.out q0⟩
            clear x0 x1 x2 x3 y0 y1 y2 y3 p0 p1 p2 p3 q0 q1 q2 q3 l0 l1 l2 l3 HBw hz
            generalize ((w11.setCell ⟨w.heap.size + 1 + 1 + 1, 0, none⟩ (.bool (sg (Q + 1)))).setCell ⟨w.heap.size + 1 + 1 + 1, 1, none⟩ (.slice A11 (nd (Q + 1)) c11)) = w12 at V12 HR12 ⊢
            refine (HC.out A11 c11 _ HR12.out).mono ?_
            rintro e w13 ⟨rfl, hr13, hb13⟩
            have HR13 := Asd.mk hr13
            have V13 := Asd.mk (V5.call V12.out hb13)
            clear hr13 hb13
            obtain ⟨HBw, hz, ⟨x0, x1, x2, x3⟩, ⟨y0, y1, y2, y3⟩, ⟨p0, p1, p2, p3⟩, ⟨q0, q1, q2, q3⟩, ⟨l0, l1, l2, l3⟩⟩ := id V13.out
            go_wp2
            refine bodyPost_ret (v := .agg #[.bool (sg (a / b)), .slice A11 (nd (a / b)) c11]) (by simp (maxDischargeDepth := 9) [results, Tryd.results74, go_sem, *]) rfl ⟨_, _, rfl, RB.store2 HR13.out p0, (by repeat (first | exact Below.refl _ _ | assumption | refine bl_alloc ?_ _ | refine bl_drewN ?_ _ | refine bl_drew ?_ | refine bl_set ?_ (by first | (simp; done) | (simp; omega) | (dsimp only; omega)) _ | refine bl_then ?_ (by assumption)))⟩)
end Go.Proofs.YtgodfbhjfhdihaaDoor
