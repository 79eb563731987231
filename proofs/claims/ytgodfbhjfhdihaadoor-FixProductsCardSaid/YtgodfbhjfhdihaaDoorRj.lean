/- Walks of the reference's big numbers, ninth part: of a number; powers of 2. -/
import Derived.Test.YtgodfbhjfhdihaaDoorRi
import Derived.Test.YtgodfbhjfhdihaaDoorWp
namespace Go.Proofs.YtgodfbhjfhdihaaDoor
open Go.RowKit
attribute [local go_sem] nlt2 nlt3 nlt4 nlt5 nlt6 nlt7 nlt8 nlt9 nlt10 nlt11 nlt12

theorem dg_abs {x y : Int} (h : x.natAbs = y.natAbs) : dg x = dg y := by unfold dg; rw [h]
set_option maxRecDepth 100000 in
set_option maxHeartbeats 2000000 in
theorem ref_Of (x : Int) (hx : I64 x) (w : World) :
    Calls Tryd.prog 41 #[.int .i64 x] w (BigR w x) := by
  have HX := Asd.mk hx
  clear hx
  by_cases h : x < 0
  · have hs : sg x = true := sg_true.2 h
    have HU := Asd.mk (show U64 (x.natAbs : Int) by have := HX.out; unfold I64 at this; unfold U64; omega)
    have e : IntKind.u64.wrap (IntKind.u64.wrap (wrap64 (-wrap64 (x + 1))) + 1) = (x.natAbs : Int) := by
      have := HX.out; unfold I64 at this; simp only [IntKind.wrap_u64, wrap64]; omega
    have HD := Asd.mk (dg_abs (x := (x.natAbs : Int)) (y := x) (by omega))
    have HN : Asd (nd (x.natAbs : Int) = nd x) := ⟨by unfold nd; rw [HD.out]⟩
    go_enter Tryd.func41, Tryd.ntmps41
    go_wp2_with (go_at_call 73; refine (ref_nat (x.natAbs : Int) HU.out _).mono ?_; rintro e w1 ⟨A1, c1, rfl, hr1, hb1⟩; replace hr1 := Asd.mk hr1; obtain ⟨p0, p1, p2, p3⟩ : Bx w1 (w.heap.size) (.bool false) (.slice none 0 0) := Bx.low hb1 (by first | (simp; done) | (simp; omega) | (simp [go_sem]; done) | (simp [go_sem]; omega) | omega) (by simp (maxDischargeDepth := 9) [Bx, go_sem, *]); obtain ⟨hc1, hf1⟩ := bcell hb1; have hz1_0 : w.heap.size < w1.heap.size := Nat.lt_of_lt_of_le (by first | (simp; done) | (simp; omega) | (simp [go_sem]; done) | (simp [go_sem]; omega) | omega) hb1.size)
    have HR : RB w1 A1 c1 x := by have := hr1.out; unfold RB at this ⊢; rwa [HD.out] at this
    rw [HN.out]
    refine bodyPost_ret (v := .agg #[.bool (sg x), .slice A1 (nd x) c1]) (by simp (maxDischargeDepth := 9) [results, Tryd.results41, go_sem, *]) rfl ⟨_, _, rfl, ?_, (by repeat (first | exact Below.refl _ _ | assumption | refine bl_alloc ?_ _ | refine bl_drewN ?_ _ | refine bl_drew ?_ | refine bl_set ?_ (by first | (simp; done) | (simp; omega) | (dsimp only; omega)) _ | refine bl_then ?_ (by assumption)))⟩
    exact RS.alloc (RB.store2 HR p0) _
  · have HU := Asd.mk (show U64 x by have := HX.out; unfold I64 at this; unfold U64; omega)
    have e : IntKind.u64.wrap x = x := by have := HU.out; unfold U64 at this; rw [IntKind.wrap_u64]; omega
    go_enter Tryd.func41, Tryd.ntmps41
    go_wp2_with (go_at_call 73; refine (ref_nat x HU.out _).mono ?_; rintro e w1 ⟨A1, c1, rfl, hr1, hb1⟩; replace hr1 := Asd.mk hr1; obtain ⟨p0, p1, p2, p3⟩ : Bx w1 (w.heap.size) (.bool false) (.slice none 0 0) := Bx.low hb1 (by first | (simp; done) | (simp; omega) | (simp [go_sem]; done) | (simp [go_sem]; omega) | omega) (by simp (maxDischargeDepth := 9) [Bx, go_sem, *]); obtain ⟨hc1, hf1⟩ := bcell hb1; have hz1_0 : w.heap.size < w1.heap.size := Nat.lt_of_lt_of_le (by first | (simp; done) | (simp; omega) | (simp [go_sem]; done) | (simp [go_sem]; omega) | omega) hb1.size)
    refine bodyPost_ret (v := .agg #[.bool (sg x), .slice A1 (nd x) c1]) (by simp (maxDischargeDepth := 9) [results, Tryd.results41, go_sem, *]) rfl ⟨_, _, rfl, RB.store2 hr1.out p0, (by repeat (first | exact Below.refl _ _ | assumption | refine bl_alloc ?_ _ | refine bl_drewN ?_ _ | refine bl_drew ?_ | refine bl_set ?_ (by first | (simp; done) | (simp; omega) | (dsimp only; omega)) _ | refine bl_then ?_ (by assumption)))⟩

/-- Digits whose highest one isn't 0 are the number's own. -/
theorem digs_own {ds : List Int} {d : Int} (h : Dg (ds ++ [d])) (hd : d ≠ 0) : digs (vald (ds ++ [d])).toNat = ds ++ [d] := by
  obtain ⟨t1, t2, t3, t4⟩ := digs_take h
  have hl : (digs (vald (ds ++ [d])).toNat).length = (ds ++ [d]).length := by
    by_cases hh : (digs (vald (ds ++ [d])).toNat).length ≤ ds.length
    · have := t3 ds.length hh
      rw [List.getD_eq_getElem?_getD, List.getElem?_append_right (Nat.le_refl _)] at this
      simp at this
      exact absurd this hd
    · simp only [List.length_append, List.length_cons, List.length_nil] at t2 ⊢; omega
  rw [hl, List.take_of_length_le (Nat.le_refl _)] at t1
  exact t1.symm
theorem Dg_zeros (k : Nat) : Dg (List.replicate k 0) := fun d hd => by rw [(List.mem_replicate.1 hd).2]; omega
theorem vald_zeros (k : Nat) : vald (List.replicate k 0) = 0 := by
  induction k with
  | zero => rfl
  | succ k ih => rw [List.replicate_succ]; show 0 + 65536 * vald (List.replicate k 0) = 0; omega
theorem zeros_succ (k : Nat) : List.replicate k (0 : Int) ++ [0] = List.replicate (k + 1) 0 := by rw [List.replicate_succ']
theorem pow2_16 (k : Nat) : pow2 (16 * k) = pB k := by unfold pow2 pB; rw [Int.pow_mul]; rfl
theorem pow2_add (i j : Nat) : pow2 (i + j) = pow2 i * pow2 j := Int.pow_add ..
theorem pow2_small {j : Nat} (h : j < 16) : 1 ≤ pow2 j ∧ pow2 j < 65536 := by
  have := pow2_pos j
  have h2 : pow2 16 = pow2 j * pow2 (16 - j) := by rw [← pow2_add]; congr 1; omega
  have h3 : pow2 (16 - j) = 2 * pow2 (15 - j) := by rw [← pow2_succ]; congr 1; omega
  have h4 := pow2_pos (15 - j)
  have e : pow2 16 = 65536 := by decide
  have h5 : pow2 j * 2 ≤ pow2 j * pow2 (16 - j) := Int.mul_le_mul_of_nonneg_left (by omega) (by omega)
  omega
theorem pow2_digits (n : Nat) : dg (pow2 n) = List.replicate (n / 16) 0 ++ [pow2 (n % 16)] := by
  have hs := pow2_small (j := n % 16) (by omega)
  have hD : Dg (List.replicate (n / 16) 0 ++ [pow2 (n % 16)]) := Dg.snoc (Dg_zeros _) (by omega) (by omega)
  have hv : vald (List.replicate (n / 16) 0 ++ [pow2 (n % 16)]) = pow2 n := by
    rw [vald_snoc, vald_zeros, List.length_replicate, ← pow2_16, ← pow2_add, show 16 * (n / 16) + n % 16 = n from by omega]; omega
  have h := digs_own hD (by omega)
  rw [hv] at h
  unfold dg
  have := pow2_pos n
  rw [show (pow2 n).natAbs = (pow2 n).toNat from by omega]
  exact h

set_option maxRecDepth 100000 in
set_option maxHeartbeats 4000000 in
theorem ref_Power (n : Nat) (hn : n ≤ 2000) (w : World) :
    Calls Tryd.prog 53 #[.int .i64 n] w (BigR w (pow2 n)) := by
  have hs : sg (pow2 n) = false := sg_false.2 (by have := pow2_pos n; omega)
  have HE := Asd.mk (pow2_digits n)
  go_enter Tryd.func53, Tryd.ntmps53
  go_wp2
  go_loopw [3, 4] (fun v3 v4 wr => ∃ k : Nat, k ≤ n / 16 ∧ v4 = .int .i64 k ∧ Asd (OW wr (w.heap.size + 1) v3 (List.replicate k 0)) ∧ Asd (Below (w.heap.size + 1) (w.alloc (.cells #[.bool false, .slice none 0 0] 33)) wr)) (fun _ v4 _ => n / 16 - (intOf v4).toNat)
  case atStart => exact ⟨0, by omega, rfl, ⟨OW.empty (by simp) (Nat.le_refl _)⟩, ⟨(Below.refl _ _).alloc (by simp) _⟩⟩
  case round =>
    obtain ⟨k, hk, rfl, HO, HB⟩ := hrel
    have HS : w.heap.size + 1 ≤ wr.heap.size := by simpa using HB.out.size
    have HL : (List.replicate k (0 : Int)).length ≤ 1000000 := by rw [List.length_replicate]; omega
    by_cases hlt : k < n / 16
    · go_wp2_with (at_builtin; refine app_u64 (w0 := w.alloc (.cells #[.bool false, .slice none 0 0] 33)) (w.heap.size + 1) rfl (.tmp 14) (.tmp 15) rfl Tryd.underlying31 info_u64 (u3) (List.replicate k 0) (0) rfl rfl HO.out HB.out HS HL ?_; intro v1 w1 HO1 HB1 _)
      go_roundw
      case rel => exact ⟨k + 1, by omega, by go_num, ⟨by rw [← zeros_succ]; exact HO1⟩, ⟨HB1⟩⟩
      case measure => simp [intOf]; omega
    · obtain rfl : k = n / 16 := by omega
      go_wp2
      go_loop [5, 6] (fun v5 v6 => ∃ (j : Nat) (x : Int), j ≤ n % 16 ∧ v6 = .int .i64 j ∧ v5 = .int .u64 x ∧ Asd (x = pow2 j)) (fun _ v6 => n % 16 - (intOf v6).toNat)
      case atStart => exact ⟨0, 1, by omega, rfl, rfl, ⟨rfl⟩⟩
      case round =>
        obtain ⟨j, x, hj, rfl, rfl, HX⟩ := hrel
        have p1 : 0 ≤ x := by rw [HX.out]; have := pow2_small (j := j) (by omega); omega
        have p2 : x < 65536 := by rw [HX.out]; have := pow2_small (j := j) (by omega); omega
        by_cases hlt2 : j < n % 16
        · go_wp2
          go_round
          case rel => exact ⟨j + 1, 2 * x, by omega, by go_num, rfl, ⟨by rw [pow2_succ, HX.out]⟩⟩
          case measure => simp [intOf]; omega
        · obtain rfl : j = n % 16 := by omega
          have hz0 : w.heap.size < wr.heap.size := by omega
          have HBw : Below w.heap.size w wr := ((Below.refl _ _).alloc (Nat.le_refl _) _).trans (HB.out.mono (by simp))
          have HBW := Asd.mk HBw
          clear HBw
          go_wp2_with (at_builtin; refine app_u64 (w0 := w.alloc (.cells #[.bool false, .slice none 0 0] 33)) (w.heap.size + 1) rfl (.tmp 25) (.tmp 27) rfl Tryd.underlying31 info_u64 (u3) (List.replicate (n / 16) 0) (x) rfl rfl HO.out HB.out HS HL ?_; intro v1 w1 HO1 HB1 _; obtain ⟨A1, c1, rfl, hr1⟩ := OW.reads HO1; have HR1 := Asd.mk hr1; clear hr1; obtain ⟨q0, q1, q2, q3⟩ : Bx w1 w.heap.size (.bool false) (.slice none 0 0) := Bx.low HB1 (by simp) (by simp [Bx, go_sem]))
          have HBw1 : Below w.heap.size w w1 := ((Below.refl _ _).alloc (Nat.le_refl _) _).trans (HB1.mono (by simp))
          have HD : Asd (dg (pow2 n) = List.replicate (n / 16) 0 ++ [x]) := ⟨by rw [HE.out, HX.out]⟩
          have HL1 : n / 16 + 1 = nd (pow2 n) := by unfold nd; rw [HD.out]; simp
          have HR2 : RB w1 A1 c1 (pow2 n) := by unfold RB; rw [HD.out]; exact HR1.out
          have HL2 := Asd.mk HL1
          clear HL1
          rw [HL2.out]
          have hs2 := Asd.mk hs
          clear hs
          refine bodyPost_ret (v := .agg #[.bool false, .slice A1 (nd (pow2 n)) c1]) (by simp (maxDischargeDepth := 9) [results, Tryd.results53, go_sem, *]) rfl ⟨A1, c1, by rw [hs2.out], RB.store2 HR2 q0, (by repeat (first | exact Below.refl _ _ | assumption | refine bl_alloc ?_ _ | refine bl_drewN ?_ _ | refine bl_drew ?_ | refine bl_set ?_ (by first | (simp; done) | (simp; omega) | (dsimp only; omega)) _ | refine bl_then ?_ (by assumption)))⟩
end Go.Proofs.YtgodfbhjfhdihaaDoor
