/- Walks of the layer 'wide', sixth part: quotients by a power of 2. -/
import Derived.Test.YtgodfbhjfhdihaaDoorWf
import Derived.Test.YtgodfbhjfhdihaaDoorWp
import Derived.Deep.RegionWith
namespace Go.Proofs.YtgodfbhjfhdihaaDoor
open Go.RowKit
attribute [local go_sem] nlt2 nlt3 nlt4 nlt5 nlt6 nlt7 nlt8 nlt9 nlt10 nlt11 nlt12

set_option maxRecDepth 100000 in
set_option maxHeartbeats 1000000 in
theorem wide_down (a : Int) (w : World) :
    Calls Tryd.prog 82 #[.agg #[.int .i64 (whi a), .int .u64 (wlo a)]] w fun e w' => e = .returned (.tuple #[.agg #[.int .i64 (whi (a / 2)), .int .u64 (wlo (a / 2))], .int .u64 (a % 2)]) ∧ Below w.heap.size w w' := by
  have E1 := Lib.hid (down_hi a)
  have E2 := Lib.hid (down_lo a)
  have E3 := Lib.hid (down_rest a)
  go_enter Tryd.func82, Tryd.ntmps82
  go_wp2
  go_region_held3 (fun w' => w'.cell? ⟨w.heap.size, 0, none⟩ = some (.int .i64 (whi a)) ∧ w'.cell? ⟨w.heap.size, 1, none⟩ = some (.int .u64 (wlo a))) (first | (simp [go_sem]; done) | (simp [go_sem, *]; done))
      (fail)
  go_wp2
  refine bodyPost_ret (v := .tuple #[.agg #[.int .i64 (whi (a / 2)), .int .u64 (wlo (a / 2))], .int .u64 (a % 2)]) (by simp [results, Tryd.results82, go_sem, *]; exact ⟨⟨E1.out, E2.out⟩, E3.out⟩) rfl ⟨rfl, (by repeat (first | exact Below.refl _ _ | assumption | refine bl_alloc ?_ _ | refine bl_drewN ?_ _ | refine bl_drew ?_ | refine bl_set ?_ (by first | (simp; done) | (simp; omega) | (dsimp only; omega)) _ | refine bl_then ?_ (by assumption)))⟩

set_option maxRecDepth 100000 in
set_option maxHeartbeats 2000000 in
theorem wide_Half_loop (a : Int) (n : Nat) (hn : n ≤ 127) (ha : W128 a) (w : World) :
    Calls Tryd.prog 51 #[.agg #[.int .i64 (whi a), .int .u64 (wlo a)], .int .i64 n] w fun e w' => e = .returned (.tuple #[.agg #[.int .i64 (whi (evP a (pow2 n))), .int .u64 (wlo (evP a (pow2 n)))], .int .i64 0]) ∧ Below w.heap.size w w' := by
  have HE := Lib.hid (half_even a n)
  go_enter Tryd.func51, Tryd.ntmps51
  go_wp2
  go_loopw [6, 7, 16] (fun v6 v7 v wr => ∃ k : Nat, k ≤ n ∧ v = .int .i64 k ∧ v6 = .int .u64 (lastS a k) ∧ v7 = .int .u64 (restS a k) ∧ Blk wr w.heap.size (whi (dn a k)) (wlo (dn a k)) ∧ Blk wr (w.heap.size + 1) 0 0 ∧ Hid (Below w.heap.size w wr) ∧ w.heap.size + 1 < wr.heap.size) (fun _ _ v _ => n - (intOf v).toNat)
  case atStart =>
    refine ⟨0, by omega, rfl, rfl, rfl, ?_, ?_, (by repeat (first | exact Below.refl _ _ | assumption | refine bl_alloc ?_ _ | refine bl_drewN ?_ _ | refine bl_drew ?_ | refine bl_set ?_ (by first | (simp; done) | (simp; omega) | (dsimp only; omega)) _ | refine bl_then ?_ (by assumption))), by simp⟩
    · rw [dn_zero]; simp [Blk, go_sem]
    · simp [Blk, go_sem]
  case round =>
    obtain ⟨k, hk, rfl, rfl, rfl, ⟨b0, b1, f0, f1⟩, ⟨r0, r1, s0, s1⟩, HB, hz⟩ := hrel
    have hz0 : w.heap.size < wr.heap.size := by omega
    by_cases hlt2 : k < n
    · have ES := Lib.hid (dn_succ a k)
      have ER := Lib.hid (rest_or a k)
      go_wp2_with (go_at_call 82; refine (wide_down (dn a k) _).mono ?_; rintro e w1 ⟨rfl, hb1⟩; obtain ⟨hc1, hf1⟩ := bcell hb1; have hz1 : w.heap.size < w1.heap.size := Nat.lt_of_lt_of_le hz0 hb1.size; have hz2 : w.heap.size + 1 < w1.heap.size := Nat.lt_of_lt_of_le hz hb1.size)
      go_roundw
      case rel =>
        have HB' := HB.out
        refine ⟨k + 1, by omega, by go_num, rfl, by rw [ER.out], ?_, ?_, (by repeat (first | exact Below.refl _ _ | assumption | refine bl_alloc ?_ _ | refine bl_drewN ?_ _ | refine bl_drew ?_ | refine bl_set ?_ (by first | (simp; done) | (simp; omega) | (dsimp only; omega)) _ | refine bl_then ?_ (by assumption))), by simp; omega⟩
        · rw [ES.out]; simp [Blk, go_sem, *]
        · simp [Blk, go_sem, *]
      case measure => simp [intOf]; omega
    · obtain rfl : k = n := by omega
      have HL := dn_W128 ha k
      have ha1 : bits .and .u64 (wlo (dn a k)) 1 = dn a k % 2 := (and_one _ (wlo_u64 _).1 (wlo_u64 _).2).trans (by unfold wlo; omega)
      have one : I64 1 := by unfold I64; omega
      by_cases hl : lastS a k = 1
      · have HI := Lib.hid (wrapW_of (dn_inc_W128 ha k hl))
        by_cases hr : restS a k = 1
        · have hev : evP a (pow2 k) = dn a k + 1 := by rw [HE.out, if_pos ⟨hl, .inl hr⟩]
          have HV := Lib.hid hev
          clear hev HE
          have HB' := HB.out
          go_wp2
          go_region_with (first | (go_at_call 23; refine (wide_Of 1 one _).mono ?_; rintro e w1 ⟨rfl, hb1⟩; obtain ⟨b2, b3, f2, f3⟩ := Blk.below hb1 hz0 ⟨b0, b1, f0, f1⟩; obtain ⟨r2, r3, s2, s3⟩ := Blk.below hb1 hz ⟨r0, r1, s0, s1⟩; have hz1 : w.heap.size < w1.heap.size := Nat.lt_of_lt_of_le hz0 hb1.size; have hz2 : w.heap.size + 1 < w1.heap.size := Nat.lt_of_lt_of_le hz hb1.size) | (go_at_call 72; refine (wide_plus (dn a k) 1 _).mono ?_; rintro e w2 ⟨rfl, hb2⟩; obtain ⟨b4, b5, f4, f5⟩ := Blk.below hb2 hz1 ⟨b2, b3, f2, f3⟩; obtain ⟨r4, r5, s4, s5⟩ := Blk.below hb2 hz2 ⟨r2, r3, s2, s3⟩; have hz3 : w.heap.size < w2.heap.size := Nat.lt_of_lt_of_le hz1 hb2.size; have hz4 : w.heap.size + 1 < w2.heap.size := Nat.lt_of_lt_of_le hz2 hb2.size))
          all_goals go_wp2
          all_goals (refine bodyPost_ret (v := .tuple #[.agg #[.int .i64 (whi (dn a k + 1)), .int .u64 (wlo (dn a k + 1))], .int .i64 0]) (by simp [results, Tryd.results51, go_sem, *]; rw [HI.out]; exact ⟨rfl, rfl⟩) rfl ⟨by rw [HV.out], (by repeat (first | exact Below.refl _ _ | assumption | refine bl_alloc ?_ _ | refine bl_drewN ?_ _ | refine bl_drew ?_ | refine bl_set ?_ (by first | (simp; done) | (simp; omega) | (dsimp only; omega)) _ | refine bl_then ?_ (by assumption)))⟩)
        · by_cases hp : dn a k % 2 = 1
          · have hev : evP a (pow2 k) = dn a k + 1 := by rw [HE.out, if_pos ⟨hl, .inr hp⟩]
            have HV := Lib.hid hev
            clear hev HE
            have HB' := HB.out
            go_wp2
            go_region_with (first | (go_at_call 23; refine (wide_Of 1 one _).mono ?_; rintro e w1 ⟨rfl, hb1⟩; obtain ⟨b2, b3, f2, f3⟩ := Blk.below hb1 hz0 ⟨b0, b1, f0, f1⟩; obtain ⟨r2, r3, s2, s3⟩ := Blk.below hb1 hz ⟨r0, r1, s0, s1⟩; have hz1 : w.heap.size < w1.heap.size := Nat.lt_of_lt_of_le hz0 hb1.size; have hz2 : w.heap.size + 1 < w1.heap.size := Nat.lt_of_lt_of_le hz hb1.size) | (go_at_call 72; refine (wide_plus (dn a k) 1 _).mono ?_; rintro e w2 ⟨rfl, hb2⟩; obtain ⟨b4, b5, f4, f5⟩ := Blk.below hb2 hz1 ⟨b2, b3, f2, f3⟩; obtain ⟨r4, r5, s4, s5⟩ := Blk.below hb2 hz2 ⟨r2, r3, s2, s3⟩; have hz3 : w.heap.size < w2.heap.size := Nat.lt_of_lt_of_le hz1 hb2.size; have hz4 : w.heap.size + 1 < w2.heap.size := Nat.lt_of_lt_of_le hz2 hb2.size))
            all_goals go_wp2
            all_goals (refine bodyPost_ret (v := .tuple #[.agg #[.int .i64 (whi (dn a k + 1)), .int .u64 (wlo (dn a k + 1))], .int .i64 0]) (by simp [results, Tryd.results51, go_sem, *]; rw [HI.out]; exact ⟨rfl, rfl⟩) rfl ⟨by rw [HV.out], (by repeat (first | exact Below.refl _ _ | assumption | refine bl_alloc ?_ _ | refine bl_drewN ?_ _ | refine bl_drew ?_ | refine bl_set ?_ (by first | (simp; done) | (simp; omega) | (dsimp only; omega)) _ | refine bl_then ?_ (by assumption)))⟩)
          · have hp2 : dn a k % 2 = 0 := by omega
            have hev : evP a (pow2 k) = dn a k := by rw [HE.out, if_neg (fun h => h.2.elim hr hp)]
            have HV := Lib.hid hev
            clear hev HE
            have HB' := HB.out
            go_wp2
            refine bodyPost_ret (v := .tuple #[.agg #[.int .i64 (whi (dn a k)), .int .u64 (wlo (dn a k))], .int .i64 0]) (by simp [results, Tryd.results51, go_sem, *]) rfl ⟨by rw [HV.out], (by repeat (first | exact Below.refl _ _ | assumption | refine bl_alloc ?_ _ | refine bl_drewN ?_ _ | refine bl_drew ?_ | refine bl_set ?_ (by first | (simp; done) | (simp; omega) | (dsimp only; omega)) _ | refine bl_then ?_ (by assumption)))⟩
      · have hev : evP a (pow2 k) = dn a k := by rw [HE.out, if_neg (fun h => hl h.1)]
        have HV := Lib.hid hev
        clear hev HE
        have HB' := HB.out
        go_wp2
        refine bodyPost_ret (v := .tuple #[.agg #[.int .i64 (whi (dn a k)), .int .u64 (wlo (dn a k))], .int .i64 0]) (by simp [results, Tryd.results51, go_sem, *]) rfl ⟨by rw [HV.out], (by repeat (first | exact Below.refl _ _ | assumption | refine bl_alloc ?_ _ | refine bl_drewN ?_ _ | refine bl_drew ?_ | refine bl_set ?_ (by first | (simp; done) | (simp; omega) | (dsimp only; omega)) _ | refine bl_then ?_ (by assumption)))⟩

set_option maxHeartbeats 1000000 in
theorem wide_Half_arg (a n : Int) (hn : n < 0 ∨ 127 < n) (w : World) (hg : GN w) :
    Calls Tryd.prog 51 #[.agg #[.int .i64 (whi a), .int .u64 (wlo a)], .int .i64 n] w fun e w' => e = .returned (.tuple #[.agg #[.int .i64 0, .int .u64 0], .int .i64 1]) ∧ Below w.heap.size w w' := by
  have hlt := World.block_lt_of_cell? w _ hg.1
  obtain ⟨g0, g1⟩ := hg
  by_cases h1 : n < 0
  · go_enter Tryd.func51, Tryd.ntmps51
    go_wp2
    refine bodyPost_ret (v := .tuple #[.agg #[.int .i64 0, .int .u64 0], .int .i64 1]) (by simp [results, Tryd.results51, go_sem, *]) rfl ⟨rfl, (by repeat (first | exact Below.refl _ _ | assumption | refine bl_alloc ?_ _ | refine bl_drewN ?_ _ | refine bl_drew ?_ | refine bl_set ?_ (by first | (simp; done) | (simp; omega) | (dsimp only; omega)) _ | refine bl_then ?_ (by assumption)))⟩
  · have h2 : 127 < n := by omega
    clear hn
    go_enter Tryd.func51, Tryd.ntmps51
    go_wp2
    refine bodyPost_ret (v := .tuple #[.agg #[.int .i64 0, .int .u64 0], .int .i64 1]) (by simp [results, Tryd.results51, go_sem, *]) rfl ⟨rfl, (by repeat (first | exact Below.refl _ _ | assumption | refine bl_alloc ?_ _ | refine bl_drewN ?_ _ | refine bl_drew ?_ | refine bl_set ?_ (by first | (simp; done) | (simp; omega) | (dsimp only; omega)) _ | refine bl_then ?_ (by assumption)))⟩
end Go.Proofs.YtgodfbhjfhdihaaDoor
