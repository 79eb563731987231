/- Walks of the reference's big numbers, third part: sums and rests of digits. -/
import Derived.Test.YtgodfbhjfhdihaaDoorRc
namespace Go.Proofs.YtgodfbhjfhdihaaDoor
open Go.RowKit
attribute [local go_sem] nlt2 nlt3 nlt4 nlt5 nlt6 nlt7 nlt8 nlt9 nlt10 nlt11 nlt12

theorem gd_bd {xs : List Int} (h : Dg xs) (i : Nat) : 0 ≤ gd xs i ∧ gd xs i < 65536 := h.getD i
theorem take_gd (xs : List Int) (i : Nat) : vald (xs.take (i + 1)) = vald (xs.take i) + pB i * gd xs i := take_succ_getD xs i
/-- One step of a sum. -/
theorem sum_step {xs ys out : List Int} {k : Nat} {cy : Int} (hx : Dg xs) (hy : Dg ys) (h : vald out + pB k * cy = vald (xs.take k) + vald (ys.take k)) (hl : out.length = k) (hd : Dg out) (hc : 0 ≤ cy ∧ cy ≤ 1) :
    Dg (out ++ [(gd xs k + gd ys k + cy) % 65536]) ∧ (out ++ [(gd xs k + gd ys k + cy) % 65536]).length = k + 1 ∧
    vald (out ++ [(gd xs k + gd ys k + cy) % 65536]) + pB (k + 1) * ((gd xs k + gd ys k + cy) / 65536) = vald (xs.take (k + 1)) + vald (ys.take (k + 1)) ∧ 0 ≤ (gd xs k + gd ys k + cy) / 65536 ∧ (gd xs k + gd ys k + cy) / 65536 ≤ 1 := by
  have b1 := gd_bd hx k
  have b2 := gd_bd hy k
  refine ⟨Dg.snoc hd (by omega) (by omega), by simp [hl], ?_, by omega, by omega⟩
  rw [vald_snoc, hl, pB_succ, take_gd, take_gd]
  generalize hT : gd xs k + gd ys k + cy = T
  have e : pB k * T = pB k * (T % 65536) + 65536 * pB k * (T / 65536) := by
    have h1 : T = T % 65536 + 65536 * (T / 65536) := by omega
    have h2 : pB k * T = pB k * (T % 65536 + 65536 * (T / 65536)) := congrArg _ h1
    rw [h2, Int.mul_add, Int.mul_left_comm, Int.mul_assoc]
  have e2 : pB k * T = pB k * gd xs k + pB k * gd ys k + pB k * cy := by rw [← hT, Int.mul_add, Int.mul_add]
  omega

/-- Digits, as they are handed back. -/
def Summed (w : World) (z : Int) (n : Nat) (e : Ending) (w' : World) : Prop :=
  ∃ (out : List Int) (A : Option Addr) (c : Nat), e = .returned (.slice A out.length c) ∧ RS w' A c out ∧ Dg out ∧ vald out = z ∧ out.length ≤ n ∧ Below w.heap.size w w'

set_option maxRecDepth 100000 in
set_option maxHeartbeats 4000000 in
theorem ref_sum (A B : Option Addr) (c d : Nat) (xs ys : List Int) (hx : Dg xs) (hy : Dg ys) (hlx : xs.length ≤ 100000) (hly : ys.length ≤ 100000) (w : World) (hA : RS w A c xs) (hB : RS w B d ys) :
    Calls Tryd.prog 76 #[.slice A xs.length c, .slice B ys.length d] w (Summed w (vald xs + vald ys) (max xs.length ys.length + 1)) := by
  have HA := Asd.mk hA
  have HB := Asd.mk hB
  have DX := Asd.mk hx
  have DY := Asd.mk hy
  clear hA hB
  go_enter Tryd.func76, Tryd.ntmps76
  go_wp2
  go_loopw [5, 6, 7] (fun v5 v6 v7 wr => ∃ (k : Nat) (out : List Int) (cy : Int), v7 = .int .i64 k ∧ v6 = .int .u64 cy ∧ k ≤ max xs.length ys.length + 1 ∧ Asd ((max xs.length ys.length < k → cy = 0) ∧ Dg out ∧ out.length = k ∧ vald out + pB k * cy = vald (xs.take k) + vald (ys.take k)) ∧ 0 ≤ cy ∧ cy ≤ 1 ∧ Asd (OW wr w.heap.size v5 out) ∧ Asd (Below w.heap.size w wr)) (fun _ _ v7 _ => max xs.length ys.length + 1 - (intOf v7).toNat)
  case atStart =>
    refine ⟨0, [], 0, rfl, rfl, by omega, ⟨by simp, Dg.nil, rfl, by simp [vald]⟩, by omega, by omega, ⟨?_⟩, ⟨?_⟩⟩
    · exact OW.empty (by simp) (Nat.le_refl _)
    · exact (by repeat (first | exact Below.refl _ _ | assumption | refine bl_alloc ?_ _ | refine bl_drewN ?_ _ | refine bl_drew ?_ | refine bl_set ?_ (by first | (simp; done) | (simp; omega) | (dsimp only; omega)) _ | refine bl_then ?_ (by assumption)))
  case round =>
    obtain ⟨k, out, cy, rfl, rfl, hk, HV, hc0, hc1, HO, HBw⟩ := hrel
    have bx := gd_bd DX.out k
    have by' := gd_bd DY.out k
    obtain ⟨bx0, bx1⟩ := bx
    obtain ⟨by0, by1⟩ := by'
    have HRX := Asd.mk (RS.below HA.out HBw.out)
    have HRY := Asd.mk (RS.below HB.out HBw.out)
    have HS := HBw.out.size
    have HL : out.length ≤ 1000000 := by have := HV.out.2.2.1; omega
    by_cases hgo : k < xs.length ∨ k < ys.length ∨ 0 < cy
    · have hkm : k ≤ max xs.length ys.length := by
        have := HV.out.1
        rcases hgo with h | h | h
        · omega
        · omega
        · by_cases hh : max xs.length ys.length < k
          · have := this hh; omega
          · omega
      have HK := Asd.mk hkm
      have hkb : (k : Int) ≤ 200000 := by omega
      clear hkm hk
      by_cases h1 : k < xs.length
      all_goals by_cases h2 : k < ys.length
      all_goals by_cases h3 : 0 < cy
      all_goals first
        | (exfalso; omega)
        | skip
      all_goals clear hgo
      all_goals go_wp2_with (first | (go_at_call 83; refine (ref_digit _ _ _ k _ (by first | exact HRX.out | exact HRY.out)).mono ?_; rintro e w' ⟨rfl, rfl⟩) | (at_builtin; refine app_u64 (w0 := w) (w.heap.size) rfl (.tmp 35) (.tmp 38) rfl Tryd.underlying31 info_u64 (u5) (out) ((gd xs k + gd ys k + cy) % 65536) rfl rfl HO.out HBw.out HS HL ?_; intro v1 w1 HO1 HB1 _))
      all_goals (
        go_roundw
        case rel =>
          obtain ⟨q0, hd, hl, hv⟩ := HV.out
          obtain ⟨s1, s2, s3, s4, s5⟩ := sum_step DX.out DY.out hv hl hd ⟨hc0, hc1⟩
          have hk := HK.out
          refine ⟨k + 1, _, _, by go_num, rfl, by omega, ⟨fun hmax => ?_, s1, s2, s3⟩, s4, s5, ⟨HO1⟩, ⟨HB1⟩⟩
          have e1 : gd xs k = 0 := gd_beyond (by omega)
          have e2 : gd ys k = 0 := gd_beyond (by omega)
          omega
        case measure => have hk := HK.out; simp [intOf]; omega)
    · have n1 : ¬ k < xs.length := fun h => hgo (.inl h)
      have n2 : ¬ k < ys.length := fun h => hgo (.inr (.inl h))
      obtain rfl : cy = 0 := by have : ¬ 0 < cy := fun h => hgo (.inr (.inr h)); omega
      clear hgo
      obtain ⟨A', c', rfl, hrs⟩ := OW.reads HO.out
      obtain ⟨_, hd, hl, hv⟩ := HV.out
      have HF := Asd.mk (show vald out = vald xs + vald ys by rw [vald_take_all (by omega), vald_take_all (by omega)] at hv; omega)
      have HN := Asd.mk (show out.length ≤ max xs.length ys.length + 1 by omega)
      have HRs := Asd.mk hrs
      have HD := Asd.mk hd
      clear hl hv hrs hd
      go_wp2
      go_ret
      exact ⟨out, A', c', rfl, HRs.out, HD.out, HF.out, HN.out, HBw.out⟩
end Go.Proofs.YtgodfbhjfhdihaaDoor
