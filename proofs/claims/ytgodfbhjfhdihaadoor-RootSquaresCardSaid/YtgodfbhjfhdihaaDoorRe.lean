/- Walks of the reference's big numbers, fourth part: rests of digits; how two rows of digits stand. -/
import Derived.Test.YtgodfbhjfhdihaaDoorRd
import Derived.Deep.RegionHeld3
namespace Go.Proofs.YtgodfbhjfhdihaaDoor
open Go.RowKit
attribute [local go_sem] nlt2 nlt3 nlt4 nlt5 nlt6 nlt7 nlt8 nlt9 nlt10 nlt11 nlt12

theorem rest_step {xs ys out : List Int} {k : Nat} {bw : Int} (hx : Dg xs) (hy : Dg ys) (h : vald out - pB k * bw = vald (xs.take k) - vald (ys.take k)) (hl : out.length = k) (hd : Dg out) (hc : 0 ≤ bw ∧ bw ≤ 1) :
    Dg (out ++ [(65536 + gd xs k - gd ys k - bw) % 65536]) ∧ (out ++ [(65536 + gd xs k - gd ys k - bw) % 65536]).length = k + 1 ∧
    vald (out ++ [(65536 + gd xs k - gd ys k - bw) % 65536]) - pB (k + 1) * (1 - (65536 + gd xs k - gd ys k - bw) / 65536) = vald (xs.take (k + 1)) - vald (ys.take (k + 1)) ∧ 0 ≤ 1 - (65536 + gd xs k - gd ys k - bw) / 65536 ∧ 1 - (65536 + gd xs k - gd ys k - bw) / 65536 ≤ 1 := by
  have b1 := gd_bd hx k
  have b2 := gd_bd hy k
  refine ⟨Dg.snoc hd (by omega) (by omega), by simp [hl], ?_, by omega, by omega⟩
  rw [vald_snoc, hl, pB_succ, take_gd, take_gd]
  generalize hT : 65536 + gd xs k - gd ys k - bw = T
  have e : pB k * T = pB k * (T % 65536) + 65536 * pB k * (T / 65536) := by
    have h1 : T = T % 65536 + 65536 * (T / 65536) := by omega
    have h2 : pB k * T = pB k * (T % 65536 + 65536 * (T / 65536)) := congrArg _ h1
    rw [h2, Int.mul_add, Int.mul_left_comm, Int.mul_assoc]
  have e2 : pB k * T = 65536 * pB k + pB k * gd xs k - pB k * gd ys k - pB k * bw := by rw [← hT, Int.mul_sub, Int.mul_sub, Int.mul_add, Int.mul_comm (pB k) 65536]
  have e3 : 65536 * pB k * (1 - T / 65536) = 65536 * pB k - 65536 * pB k * (T / 65536) := by rw [Int.mul_sub, Int.mul_one]
  omega

set_option maxRecDepth 100000 in
set_option maxHeartbeats 4000000 in
theorem ref_rest (A B : Option Addr) (c d : Nat) (xs ys : List Int) (hx : Dg xs) (hy : Dg ys) (hlx : xs.length ≤ 100000) (hle : ys.length ≤ xs.length) (hv : vald ys ≤ vald xs) (w : World) (hA : RS w A c xs) (hB : RS w B d ys) :
    Calls Tryd.prog 78 #[.slice A xs.length c, .slice B ys.length d] w (Summed w (vald xs - vald ys) xs.length) := by
  have HA := Asd.mk hA
  have HB := Asd.mk hB
  have DX := Asd.mk hx
  have DY := Asd.mk hy
  have HV0 := Asd.mk hv
  clear hA hB hv
  go_enter Tryd.func78, Tryd.ntmps78
  go_wp2
  go_loopw [5, 6, 7] (fun v5 v6 v7 wr => ∃ (k : Nat) (out : List Int) (bw : Int), v7 = .int .i64 k ∧ v6 = .int .u64 bw ∧ k ≤ xs.length ∧ Asd (Dg out ∧ out.length = k ∧ vald out - pB k * bw = vald (xs.take k) - vald (ys.take k)) ∧ 0 ≤ bw ∧ bw ≤ 1 ∧ Asd (OW wr w.heap.size v5 out) ∧ Asd (Below w.heap.size w wr)) (fun _ _ v7 _ => xs.length - (intOf v7).toNat)
  case atStart =>
    refine ⟨0, [], 0, rfl, rfl, by omega, ⟨Dg.nil, rfl, by simp [vald]⟩, by omega, by omega, ⟨?_⟩, ⟨?_⟩⟩
    · exact OW.empty (by simp) (Nat.le_refl _)
    · exact (by repeat (first | exact Below.refl _ _ | assumption | refine bl_alloc ?_ _ | refine bl_drewN ?_ _ | refine bl_drew ?_ | refine bl_set ?_ (by first | (simp; done) | (simp; omega) | (dsimp only; omega)) _ | refine bl_then ?_ (by assumption)))
  case round =>
    obtain ⟨k, out, bw, rfl, rfl, hk, HV, hc0, hc1, HO, HBw⟩ := hrel
    obtain ⟨bx0, bx1⟩ := gd_bd DX.out k
    obtain ⟨by0, by1⟩ := gd_bd DY.out k
    have HRX := Asd.mk (RS.below HA.out HBw.out)
    have HRY := Asd.mk (RS.below HB.out HBw.out)
    have HS := HBw.out.size
    have HL : out.length ≤ 1000000 := by have := HV.out.2.1; omega
    by_cases hgo : k < xs.length
    · obtain ⟨b, rfl, hb, hcell⟩ := HRX.out.at k hgo
      have e1 : IntKind.u64.wrap (65536 + gd xs k) = 65536 + gd xs k := by rw [IntKind.wrap_u64]; omega
      have e2 : IntKind.u64.wrap (65536 + gd xs k - gd ys k) = 65536 + gd xs k - gd ys k := by rw [IntKind.wrap_u64]; omega
      have e3 : IntKind.u64.wrap (65536 + gd xs k - gd ys k - bw) = 65536 + gd xs k - gd ys k - bw := by rw [IntKind.wrap_u64]; omega
      have x0 : 0 ≤ 65536 + gd xs k - gd ys k - bw := by omega
      have x1 : 65536 + gd xs k - gd ys k - bw < 131072 := by omega
      have i0 : (0 : Int) ≤ k := by omega
      have i1 : (k : Int) < xs.length := by omega
      go_wp2_with fail
      go_region_held3 (fun w' => w'.cell? ⟨b, k, none⟩ = some (.int .u64 (gd xs k))) (first | (simp [go_sem]; done) | (simp [go_sem, *]; done))
        (first | (go_at_call 83; refine (ref_digit _ _ _ k _ (by exact HRY.out)).mono ?_; rintro e w' ⟨rfl, rfl⟩))
      clear e1 e2 e3 hcell HRX HRY
      have HO2 : Asd (OW wr.drew w.heap.size u5 out) := ⟨HO.out⟩
      have HB2 : Asd (Below w.heap.size w wr.drew) := ⟨bl_drew HBw.out⟩
      have HS2 : w.heap.size ≤ wr.drew.heap.size := HS
      generalize wr.drew = w2 at HO2 HB2 HS2 ⊢
      go_wp2_with (at_builtin; refine app_u64 (w0 := w) (w.heap.size) rfl (.tmp 27) (.tmp 30) rfl Tryd.underlying31 info_u64 (u5) (out) ((65536 + gd xs k - gd ys k - bw) % 65536) rfl rfl HO2.out HB2.out HS2 HL ?_; intro v1 w1 HO1 HB1 _)
      go_roundw
      case rel =>
        obtain ⟨hd, hl, hv⟩ := HV.out
        obtain ⟨s1, s2, s3, s4, s5⟩ := rest_step DX.out DY.out hv hl hd ⟨hc0, hc1⟩
        refine ⟨k + 1, _, _, by go_num, by go_num, by omega, ⟨s1, s2, s3⟩, s4, s5, ⟨HO1⟩, ⟨HB1⟩⟩
      case measure => simp [intOf]; omega
    · obtain rfl : k = xs.length := by omega
      obtain ⟨A', c', rfl, hrs⟩ := OW.reads HO.out
      obtain ⟨hd, hl, hv⟩ := HV.out
      have hb0 : bw = 0 := by
        have h1 := vald_lt hd
        rw [vald_take_all (Nat.le_refl _), vald_take_all hle] at hv
        have := HV0.out
        rw [hl] at h1
        by_cases hh : bw = 1
        · rw [hh] at hv; omega
        · omega
      have HF := Asd.mk (show vald out = vald xs - vald ys by rw [vald_take_all (Nat.le_refl _), vald_take_all hle, hb0] at hv; omega)
      have HN := Asd.mk (show out.length ≤ xs.length by omega)
      have HRs := Asd.mk hrs
      have HD := Asd.mk hd
      clear hl hv hrs hd hb0
      go_wp2
      go_ret
      exact ⟨out, A', c', rfl, HRs.out, HD.out, HF.out, HN.out, HBw.out⟩
end Go.Proofs.YtgodfbhjfhdihaaDoor
