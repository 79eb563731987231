/- Walks of the layer 'wide', fifth part: products with a power of 2, and quotients by one. -/
import Derived.Test.YtgodfbhjfhdihaaDoorWe
namespace Go.Proofs.YtgodfbhjfhdihaaDoor
open Go.RowKit
attribute [local go_sem] nlt2 nlt3 nlt4 nlt5 nlt6 nlt7 nlt8 nlt9 nlt10 nlt11 nlt12

/-- A block of two words, a wide number's. -/
def Blk (w : World) (b : Nat) (h l : Int) : Prop :=
  w.cell? ⟨b, 0, none⟩ = some (.int .i64 h) ∧ w.cell? ⟨b, 1, none⟩ = some (.int .u64 l) ∧ w.frozen? ⟨b, 0, none⟩ = false ∧ w.frozen? ⟨b, 1, none⟩ = false

theorem Blk.below {w w1 : World} {b : Nat} {h l : Int} (hb : Below w.heap.size w w1) (hlt : b < w.heap.size) (k : Blk w b h l) : Blk w1 b h l :=
  ⟨((bcell hb).1 _ _ hlt).trans k.1, ((bcell hb).1 _ _ hlt).trans k.2.1, ((bcell hb).2 _ _ hlt).trans k.2.2.1, ((bcell hb).2 _ _ hlt).trans k.2.2.2⟩

set_option maxRecDepth 100000 in
set_option maxHeartbeats 2000000 in
theorem wide_Up_loop (a : Int) (n : Nat) (hn : n ≤ 127) (ha : W128 a) (w : World) (hg : GN w) :
    Calls Tryd.prog 50 #[.agg #[.int .i64 (whi a), .int .u64 (wlo a)], .int .i64 n] w fun e w' => e = .returned (.tuple #[.agg #[.int .i64 (whi (fitW (up a n))), .int .u64 (wlo (fitW (up a n)))], .int .i64 (errW (up a n))]) ∧ Below w.heap.size w w' := by
  have HG := Lib.hid hg
  have hlt := World.block_lt_of_cell? w _ hg.1
  obtain ⟨g0, g1⟩ := hg
  go_enter Tryd.func50, Tryd.ntmps50
  go_wp2
  go_loopw [15] (fun v wr => ∃ k : Nat, k ≤ n ∧ v = .int .i64 k ∧ W128 (up a k) ∧ Blk wr w.heap.size (whi (up a k)) (wlo (up a k)) ∧ Blk wr (w.heap.size + 1) 0 0 ∧ Hid (Below w.heap.size w wr) ∧ w.heap.size + 1 < wr.heap.size) (fun v _ => n - (intOf v).toNat)
  case atStart =>
    refine ⟨0, by omega, rfl, by rw [up_zero]; exact ha, ?_, ?_, (by repeat (first | exact Below.refl _ _ | assumption | refine bl_alloc ?_ _ | refine bl_drewN ?_ _ | refine bl_drew ?_ | refine bl_set ?_ (by first | (simp; done) | (simp; omega) | (dsimp only; omega)) _ | refine bl_then ?_ (by assumption))), by simp⟩
    · rw [up_zero]; simp [Blk, go_sem]
    · simp [Blk, go_sem]
  case round =>
    obtain ⟨k, hk, rfl, hw, ⟨b0, b1, f0, f1⟩, ⟨r0, r1, s0, s1⟩, HB, hz⟩ := hrel
    have hz0 : w.heap.size < wr.heap.size := by omega
    have hgr := HG.out.below HB.out
    have hlr : 0 < wr.heap.size := World.block_lt_of_cell? wr _ hgr.1
    by_cases hlt2 : k < n
    · have ES := Lib.hid (up_succ a k)
      by_cases hs : W128 (up a k + up a k)
      · have F := fitW_of hs
        have F1 := F.1
        have F2 := F.2
        clear F
        go_wp2_with (go_at_call 45; refine (wide_Add (up a k) (up a k) hw hw _ hgr).mono ?_; rintro e w1 ⟨rfl, hb1⟩; obtain ⟨hc1, hf1⟩ := bcell hb1; have hz1 : w.heap.size < w1.heap.size := Nat.lt_of_lt_of_le hz0 hb1.size; have hz2 : w.heap.size + 1 < w1.heap.size := Nat.lt_of_lt_of_le hz hb1.size)
        go_roundw
        case rel =>
          have HB' := HB.out
          refine ⟨k + 1, by omega, by go_num, by rw [ES.out]; exact hs, ?_, ?_, (by repeat (first | exact Below.refl _ _ | assumption | refine bl_alloc ?_ _ | refine bl_drewN ?_ _ | refine bl_drew ?_ | refine bl_set ?_ (by first | (simp; done) | (simp; omega) | (dsimp only; omega)) _ | refine bl_then ?_ (by assumption))), by simp; omega⟩
          · rw [ES.out]; simp [Blk, go_sem, *]
          · simp [Blk, go_sem, *]
        case measure => simp [intOf]; omega
      · have F := fitW_not hs
        have F1 := F.1
        have F2 := F.2
        have hno := fitW_not (up_beyond' (k := k + 1) (n := n) (by rw [ES.out]; exact hs) (by omega))
        obtain ⟨g0, g1⟩ := hgr
        have hgr : GN wr := ⟨g0, g1⟩
        have HGr := Lib.hid hgr
        clear F hgr
        go_wp2_with (go_at_call 45; refine (wide_Add (up a k) (up a k) hw hw _ HGr.out).mono ?_; rintro e w1 ⟨rfl, hb1⟩; obtain ⟨hc1, hf1⟩ := bcell hb1; have hz1 : w.heap.size < w1.heap.size := Nat.lt_of_lt_of_le hz0 hb1.size; have hz2 : w.heap.size + 1 < w1.heap.size := Nat.lt_of_lt_of_le hz hb1.size; have hl1 : 0 < w1.heap.size := Nat.lt_of_lt_of_le hlr hb1.size)
        have HB' := HB.out
        refine bodyPost_ret (v := .tuple #[.agg #[.int .i64 0, .int .u64 0], .int .i64 3]) (by simp [results, Tryd.results50, go_sem, *]) rfl ⟨by rw [hno.1, hno.2]; rfl, (by repeat (first | exact Below.refl _ _ | assumption | refine bl_alloc ?_ _ | refine bl_drewN ?_ _ | refine bl_drew ?_ | refine bl_set ?_ (by first | (simp; done) | (simp; omega) | (dsimp only; omega)) _ | refine bl_then ?_ (by assumption)))⟩
    · obtain rfl : k = n := by omega
      have hno := fitW_of hw
      have HB' := HB.out
      go_wp2
      refine bodyPost_ret (v := .tuple #[.agg #[.int .i64 (whi (up a k)), .int .u64 (wlo (up a k))], .int .i64 0]) (by simp [results, Tryd.results50, go_sem, *]) rfl ⟨by rw [hno.1, hno.2], (by repeat (first | exact Below.refl _ _ | assumption | refine bl_alloc ?_ _ | refine bl_drewN ?_ _ | refine bl_drew ?_ | refine bl_set ?_ (by first | (simp; done) | (simp; omega) | (dsimp only; omega)) _ | refine bl_then ?_ (by assumption)))⟩

set_option maxHeartbeats 1000000 in
theorem wide_Up_arg (a n : Int) (hn : n < 0 ∨ 127 < n) (w : World) (hg : GN w) :
    Calls Tryd.prog 50 #[.agg #[.int .i64 (whi a), .int .u64 (wlo a)], .int .i64 n] w fun e w' => e = .returned (.tuple #[.agg #[.int .i64 0, .int .u64 0], .int .i64 1]) ∧ Below w.heap.size w w' := by
  have hlt := World.block_lt_of_cell? w _ hg.1
  obtain ⟨g0, g1⟩ := hg
  by_cases h1 : n < 0
  · go_enter Tryd.func50, Tryd.ntmps50
    go_wp2
    refine bodyPost_ret (v := .tuple #[.agg #[.int .i64 0, .int .u64 0], .int .i64 1]) (by simp [results, Tryd.results50, go_sem, *]) rfl ⟨rfl, (by repeat (first | exact Below.refl _ _ | assumption | refine bl_alloc ?_ _ | refine bl_drewN ?_ _ | refine bl_drew ?_ | refine bl_set ?_ (by first | (simp; done) | (simp; omega) | (dsimp only; omega)) _ | refine bl_then ?_ (by assumption)))⟩
  · have h2 : 127 < n := by omega
    clear hn
    go_enter Tryd.func50, Tryd.ntmps50
    go_wp2
    refine bodyPost_ret (v := .tuple #[.agg #[.int .i64 0, .int .u64 0], .int .i64 1]) (by simp [results, Tryd.results50, go_sem, *]) rfl ⟨rfl, (by repeat (first | exact Below.refl _ _ | assumption | refine bl_alloc ?_ _ | refine bl_drewN ?_ _ | refine bl_drew ?_ | refine bl_set ?_ (by first | (simp; done) | (simp; omega) | (dsimp only; omega)) _ | refine bl_then ?_ (by assumption)))⟩
end Go.Proofs.YtgodfbhjfhdihaaDoor
