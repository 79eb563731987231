/- Walks of the reference's big numbers, tenth part: products. -/
import Derived.Test.YtgodfbhjfhdihaaDoorRj
namespace Go.Proofs.YtgodfbhjfhdihaaDoor
open Go.RowKit
attribute [local go_sem] nlt2 nlt3 nlt4 nlt5 nlt6 nlt7 nlt8 nlt9 nlt10 nlt11 nlt12

theorem mul_bd {x y : Int} (hx : 0 ≤ x ∧ x < 65536) (hy : 0 ≤ y ∧ y < 65536) : 0 ≤ x * y ∧ x * y ≤ 4294836225 :=
  ⟨Int.mul_nonneg hx.1 hy.1, by have := Int.mul_le_mul (show x ≤ 65535 by omega) (show y ≤ 65535 by omega) hy.1 (by omega); omega⟩
theorem mul_step {ys row : List Int} {i k : Nat} {g cy : Int} (hg : 0 ≤ g ∧ g < 65536) (hy : Dg ys) (h : vald row + pB (i + k) * cy = pB i * g * vald (ys.take k)) (hl : row.length = i + k) (hd : Dg row) (hc : 0 ≤ cy ∧ cy < 65536) :
    Dg (row ++ [(g * gd ys k + cy) % 65536]) ∧ (row ++ [(g * gd ys k + cy) % 65536]).length = i + (k + 1) ∧
    vald (row ++ [(g * gd ys k + cy) % 65536]) + pB (i + (k + 1)) * ((g * gd ys k + cy) / 65536) = pB i * g * vald (ys.take (k + 1)) ∧ 0 ≤ (g * gd ys k + cy) / 65536 ∧ (g * gd ys k + cy) / 65536 < 65536 := by
  have b1 := mul_bd hg (gd_bd hy k)
  refine ⟨Dg.snoc hd (by omega) (by omega), by simp [hl]; omega, ?_, by omega, by omega⟩
  rw [vald_snoc, hl, ← Nat.add_assoc, pB_succ, take_gd]
  generalize hT : g * gd ys k + cy = T
  have e : pB (i + k) * T = pB (i + k) * (T % 65536) + 65536 * pB (i + k) * (T / 65536) := by
    have h1 : T = T % 65536 + 65536 * (T / 65536) := by omega
    have h2 : pB (i + k) * T = pB (i + k) * (T % 65536 + 65536 * (T / 65536)) := congrArg _ h1
    rw [h2, Int.mul_add, Int.mul_left_comm, Int.mul_assoc]
  have e2 : pB (i + k) * T = pB (i + k) * (g * gd ys k) + pB (i + k) * cy := by rw [← hT, Int.mul_add]
  have e3 : pB i * g * (vald (ys.take k) + pB k * gd ys k) = pB i * g * vald (ys.take k) + pB (i + k) * (g * gd ys k) := by
    rw [Int.mul_add, pB_add]
    congr 1
    rw [Int.mul_assoc, Int.mul_assoc, Int.mul_left_comm g]
  rw [e3]
  omega
theorem mul_out {xs ys out row s : List Int} {i : Nat} (h : vald out = vald (xs.take i) * vald ys) (hr : vald row = pB i * gd xs i * vald ys) (hs : vald s = vald out + vald row) : vald s = vald (xs.take (i + 1)) * vald ys := by
  rw [hs, h, hr, take_gd, Int.add_mul]
theorem mul_sign {a b s : Int} (h : s = vald (dg a) * vald (dg b)) : a * b = if (sg a != sg b) then -s else s := by
  rw [vald_dg, vald_dg, ← Int.natCast_mul, ← Int.natAbs_mul] at h
  cases h1 : sg a <;> cases h2 : sg b
  · have k1 := sg_false.1 h1; have k2 := sg_false.1 h2
    have : 0 ≤ a * b := Int.mul_nonneg (by omega) (by omega)
    simp; omega
  · have k1 := sg_false.1 h1; have k2 := sg_true.1 h2
    have : a * b ≤ 0 := Int.mul_nonpos_of_nonneg_of_nonpos (by omega) (by omega)
    simp; omega
  · have k1 := sg_true.1 h1; have k2 := sg_false.1 h2
    have : a * b ≤ 0 := Int.mul_nonpos_of_nonpos_of_nonneg (by omega) (by omega)
    simp; omega
  · have k1 := sg_true.1 h1; have k2 := sg_true.1 h2
    have : 0 ≤ a * b := Int.mul_nonneg_of_nonpos_of_nonpos (by omega) (by omega)
    simp; omega

set_option maxRecDepth 100000 in
set_option maxHeartbeats 8000000 in
theorem ref_Mul (a b : Int) (A B : Option Addr) (c d : Nat) (ha : nd a ≤ 10000) (hb : nd b ≤ 10000) (w : World) (hA : RB w A c a) (hB : RB w B d b) :
    Calls Tryd.prog 52 #[.agg #[.bool (sg a), .slice A (nd a) c], .agg #[.bool (sg b), .slice B (nd b) d]] w (BigR w (a * b)) := by
  have HA := Asd.mk hA
  have HB := Asd.mk hB
  clear hA hB
  go_enter Tryd.func52, Tryd.ntmps52
  go_wp2
  go_loopw [5, 6] (fun v5 v6 wr => ∃ (i : Nat) (out : List Int) (Ao : Option Addr) (co : Nat), i ≤ nd a ∧ v6 = .int .i64 i ∧ v5 = .slice Ao out.length co ∧ Asd (Dg out ∧ vald out = vald ((dg a).take i) * vald (dg b) ∧ out.length ≤ nd a + nd b + 2 + i) ∧ Asd (RS wr Ao co out) ∧ Asd (Below w.heap.size w wr) ∧ Bx wr w.heap.size (.bool (sg a)) (.slice A (nd a) c) ∧ Bx wr (w.heap.size + 1) (.bool (sg b)) (.slice B (nd b) d) ∧ Bx wr (w.heap.size + 1 + 1) (.bool false) (.slice none 0 0) ∧ w.heap.size + 1 + 1 < wr.heap.size) (fun _ v6 _ => nd a - (intOf v6).toNat)
  case atStart =>
    refine ⟨0, [], _, _, by omega, rfl, rfl, ⟨Dg.nil, by simp [vald], by simp⟩, ⟨?_⟩, ⟨(by repeat (first | exact Below.refl _ _ | assumption | refine bl_alloc ?_ _ | refine bl_drewN ?_ _ | refine bl_drew ?_ | refine bl_set ?_ (by first | (simp; done) | (simp; omega) | (dsimp only; omega)) _ | refine bl_then ?_ (by assumption)))⟩, by simp [Bx, go_sem], by simp [Bx, go_sem], by simp [Bx, go_sem], by simp⟩
    exact ⟨by simp, by omega, (fun e => by cases e), fun h => absurd h (by simp)⟩
  case round =>
    obtain ⟨i, out, Ao, co, hi, rfl, rfl, HV, HO, HBw, ⟨x0, x1, x2, x3⟩, ⟨y0, y1, y2, y3⟩, ⟨p0, p1, p2, p3⟩, hz2⟩ := hrel
    obtain ⟨wo, rfl⟩ : ∃ wo : World, wo = wr := ⟨_, rfl⟩
    have hz1 : w.heap.size + 1 < wo.heap.size := by omega
    have hz0 : w.heap.size < wo.heap.size := by omega
    by_cases hlt : i < nd a
    · go_wp2
      go_loopw [7, 8] (fun v7 v8 wr => ∃ k : Nat, k ≤ i ∧ v8 = .int .i64 k ∧ Asd (OW wr wo.heap.size v7 (List.replicate k 0)) ∧ Asd (Below wo.heap.size wo wr)) (fun _ v8 _ => i - (intOf v8).toNat)
      case atStart => exact ⟨0, by omega, rfl, ⟨OW.empty rfl (Nat.le_refl _)⟩, ⟨(Below.refl _ _).alloc (Nat.le_refl _) _⟩⟩
      case round =>
        obtain ⟨k, hk, rfl, HR, HBr⟩ := hrel
        have HS := HBr.out.size
        have HL : (List.replicate k (0 : Int)).length ≤ 1000000 := by rw [List.length_replicate]; omega
        by_cases hlt2 : k < i
        · go_wp2_with (at_builtin; refine app_u64 (w0 := wo) (wo.heap.size) rfl (.tmp 26) (.tmp 27) rfl Tryd.underlying31 info_u64 (u7) (List.replicate k 0) (0) rfl rfl HR.out HBr.out HS HL ?_; intro v1 w1 HO1 HB1 _)
          go_roundw
          case rel => exact ⟨k + 1, by omega, by go_num, ⟨by rw [← zeros_succ]; exact HO1⟩, ⟨HB1⟩⟩
          case measure => simp [intOf]; omega
        · obtain rfl : k = i := by omega
          go_wp2
          go_loopw [7, 9, 10] (fun v7 v9 v10 wq => ∃ (m : Nat) (row : List Int) (cy : Int), m ≤ nd b + 1 ∧ v10 = .int .i64 m ∧ v9 = .int .u64 cy ∧ Asd ((nd b < m → cy = 0) ∧ Dg row ∧ row.length = k + m ∧ vald row + pB (k + m) * cy = pB k * gd (dg a) k * vald ((dg b).take m)) ∧ 0 ≤ cy ∧ cy < 65536 ∧ Asd (OW wq wo.heap.size v7 row) ∧ Asd (Below wo.heap.size wo wq)) (fun _ _ v10 _ => nd b + 1 - (intOf v10).toNat)
          case atStart => exact ⟨0, List.replicate k 0, 0, by omega, rfl, rfl, ⟨fun h => by omega, Dg_zeros _, by simp, by simp [vald_zeros, vald]⟩, by omega, by omega, HR, HBr⟩
          case round =>
            clear HS HL HR HBr hlt2
            obtain ⟨m, row, cy, hm, rfl, rfl, HP, hc0, hc1, HR, HBr⟩ := hrel
            have HS := HBr.out.size
            have HL : row.length ≤ 1000000 := by have := HP.out.2.2.1; omega
            obtain ⟨ga0, ga1⟩ := gd_bd (dg_Dg a) k
            obtain ⟨gb0, gb1⟩ := gd_bd (dg_Dg b) m
            obtain ⟨x4, x5, x6, x7⟩ := Bx.low HBr.out hz0 ⟨x0, x1, x2, x3⟩
            obtain ⟨y4, y5, y6, y7⟩ := Bx.low HBr.out hz1 ⟨y0, y1, y2, y3⟩
            obtain ⟨p4, p5, p6, p7⟩ := Bx.low HBr.out hz2 ⟨p0, p1, p2, p3⟩
            have hb0 : m < nd b + 1 → True := fun _ => trivial
            clear hb0
            by_cases hgo : m < nd b ∨ 0 < cy
            · have hkm : m ≤ nd b := by
                have := HP.out.1
                rcases hgo with h | h
                · omega
                · by_cases hh : nd b < m
                  · have := this hh; omega
                  · omega
              have HK := Asd.mk hkm
              have hkb : (m : Int) ≤ 20000 := by omega
              clear hkm
              obtain ⟨P, hP⟩ : ∃ P, P = gd (dg a) k * gd (dg b) m := ⟨_, rfl⟩
              have hPb := mul_bd (gd_bd (dg_Dg a) k) (gd_bd (dg_Dg b) m)
              rw [← hP] at hPb
              obtain ⟨P0, P1⟩ := hPb
              have e0 : IntKind.u64.wrap (gd (dg a) k * gd (dg b) m) = P := by rw [← hP, IntKind.wrap_u64]; omega
              have e1 : IntKind.u64.wrap (P + cy) = P + cy := by rw [IntKind.wrap_u64]; omega
              have HPP := Asd.mk hP
              clear hP
              obtain ⟨ba, rfl, hba, hca⟩ := (RS.below (RB.below HA.out HBw.out) (HBr.out.mono (Nat.le_refl _))).at k (by show k < nd a; omega)
              have hk0 : (0 : Int) ≤ k := by omega
              have hk1 : (k : Int) < nd a := by omega
              by_cases h1 : m < nd b
              all_goals by_cases h3 : 0 < cy
              all_goals first
                | (exfalso; omega)
                | skip
              all_goals clear hgo
              all_goals go_wp2_with fail
              all_goals (
                go_region_held3 (fun w' => w'.cell? ⟨w.heap.size, 1, none⟩ = some (.slice (some ⟨ba, 0, none⟩) (nd a) c) ∧ w'.cell? ⟨ba, k, none⟩ = some (.int .u64 (gd (dg a) k)) ∧ w'.cell? ⟨w.heap.size + 1, 1, none⟩ = some (.slice B (nd b) d)) (first | (simp [go_sem]; done) | exact ⟨x5, hca, y5⟩)
                  (first | (go_at_call 83; refine (ref_digit B d (dg b) m _ (by exact RS.drew (RS.below (RB.below HB.out HBw.out) HBr.out))).mono ?_; rintro e w' ⟨rfl, rfl⟩))
                clear e0 e1 hca
                have HR2 : Asd (OW wr.drew wo.heap.size u7 row) := ⟨HR.out⟩
                have HBr2 : Asd (Below wo.heap.size wo wr.drew) := ⟨bl_drew HBr.out⟩
                have HS2 : wo.heap.size ≤ wr.drew.heap.size := HS
                clear x4 x5 x6 x7 y4 y5 y6 y7 p4 p5 p6 p7
                generalize wr.drew = w2 at HR2 HBr2 HS2 ⊢
                go_wp2_with (at_builtin; refine app_u64 (w0 := wo) (wo.heap.size) rfl (.tmp 52) (.tmp 55) rfl Tryd.underlying31 info_u64 (u7) (row) ((P + cy) % 65536) rfl rfl HR2.out HBr2.out HS2 HL ?_; intro v1 w1 HO1 HB1 _)
                go_roundw
                case rel =>
                  obtain ⟨q0, hd, hl, hv⟩ := HP.out
                  have hg := gd_bd (dg_Dg a) k
                  obtain ⟨s1, s2, s3, s4, s5⟩ := mul_step hg (dg_Dg b) hv hl hd ⟨hc0, hc1⟩
                  rw [← HPP.out] at s1 s2 s3 s4 s5
                  have hk := HK.out
                  refine ⟨m + 1, _, _, by omega, by go_num, rfl, ⟨fun hmax => ?_, s1, s2, s3⟩, s4, s5, ⟨HO1⟩, ⟨HB1⟩⟩
                  have e1 : gd (dg b) m = 0 := gd_beyond (by show nd b ≤ m; omega)
                  have e2 := HPP.out
                  rw [e1, Int.mul_zero] at e2
                  omega
                case measure => have hk := HK.out; simp [intOf]; omega)
            · have n1 : ¬ m < nd b := fun h => hgo (.inl h)
              obtain rfl : cy = 0 := by have : ¬ 0 < cy := fun h => hgo (.inr h); omega
              clear hgo
              obtain ⟨A', c', rfl, hrs⟩ := OW.reads HR.out
              obtain ⟨_, hd, hl, hv⟩ := HP.out
              have HF := Asd.mk (show vald row = pB k * gd (dg a) k * vald (dg b) by rw [vald_take_all (by show nd b ≤ m; omega)] at hv; omega)
              have HN := Asd.mk (show row.length ≤ k + (nd b + 1) by omega)
              have HRs := Asd.mk hrs
              have HD := Asd.mk hd
              clear hl hv hrs hd
              have HO2 := Asd.mk (RS.below HO.out (HBr.out.mono (Nat.le_refl _)))
              have hzq : wo.heap.size ≤ wr.heap.size := HS
              go_wp2_with (go_at_call 76; refine (ref_sum Ao A' co c' out row HV.out.1 HD.out (by have := HV.out.2.2; omega) (by have := HN.out; omega) _ (by exact HO2.out) (by exact HRs.out)).mono ?_; rintro e w1 ⟨s, A1, c1, rfl, hr1, hd1, hv1, hl1, hb1⟩; replace hr1 := Asd.mk hr1; replace hv1 := Asd.mk hv1; replace hl1 := Asd.mk hl1)
              go_roundw
              case rel =>
                have hk1 : k + 1 ≤ nd a := by omega
                have hl := HN.out
                have hb1' := hb1
                obtain ⟨x8, x9, x10, x11⟩ := Bx.low hb1 (Nat.lt_of_lt_of_le hz0 hzq) ⟨x4, x5, x6, x7⟩
                obtain ⟨y8, y9, y10, y11⟩ := Bx.low hb1 (Nat.lt_of_lt_of_le hz1 hzq) ⟨y4, y5, y6, y7⟩
                obtain ⟨p8, p9, p10, p11⟩ := Bx.low hb1 (Nat.lt_of_lt_of_le hz2 hzq) ⟨p4, p5, p6, p7⟩
                have HBf : Below w.heap.size w w1 := (HBw.out.trans (HBr.out.mono HBw.out.size)).trans (hb1.mono (Nat.le_trans HBw.out.size hzq))
                refine ⟨k + 1, s, A1, c1, hk1, by go_num, rfl, ⟨hd1, mul_out HV.out.2.1 HF.out hv1.out, by have := hl1.out; have := HV.out.2.2; omega⟩, hr1, ⟨HBf⟩, ⟨x8, x9, x10, x11⟩, ⟨y8, y9, y10, y11⟩, ⟨p8, p9, p10, p11⟩, Nat.lt_of_lt_of_le (Nat.lt_of_lt_of_le hz2 hzq) hb1.size⟩
              case measure => simp [intOf]; omega
    · obtain rfl : i = nd a := by omega
      obtain ⟨hd, hv, hl⟩ := HV.out
      have HM := Asd.mk (mul_sign (a := a) (b := b) (s := vald out) (by rw [hv, vald_take_all (xs := dg a) (i := nd a) (Nat.le_refl _)]))
      clear hv hl
      cases q1 : sg a
      all_goals cases q2 : sg b
      all_goals rw [q1] at x0
      all_goals rw [q2] at y0
      all_goals rw [q1, q2] at HM
      all_goals (
        go_wp2_with (go_at_call 75; refine (ref_cutB _ Ao co out (a * b) hd HM.out _ (by exact HO.out)).mono ?_; rintro e w1 ⟨rfl, hr1, hb1⟩; replace hr1 := Asd.mk hr1; obtain ⟨p4, p5, p6, p7⟩ := Bx.low hb1 hz2 ⟨p0, p1, p2, p3⟩)
        have HBq := HBw.out
        have hz3 : w.heap.size + 1 + 1 < w1.heap.size := Nat.lt_of_lt_of_le hz2 hb1.size
        refine bodyPost_ret (v := .agg #[.bool (sg (a * b)), .slice Ao (nd (a * b)) co]) (by simp (maxDischargeDepth := 9) [results, Tryd.results52, go_sem, *]) rfl ⟨_, _, rfl, RB.store2 hr1.out p4, (by repeat (first | exact Below.refl _ _ | assumption | refine bl_alloc ?_ _ | refine bl_drewN ?_ _ | refine bl_drew ?_ | refine bl_set ?_ (by first | (simp; done) | (simp; omega) | (dsimp only; omega)) _ | refine bl_then ?_ (by assumption)))⟩)
end Go.Proofs.YtgodfbhjfhdihaaDoor
