/- Walks of the layer 'wide', second part: what reads the package's 'none'. -/
import Derived.Test.YtgodfbhjfhdihaaDoorWb
namespace Go.Proofs.YtgodfbhjfhdihaaDoor
open Go.RowKit
attribute [local go_sem] nlt2 nlt3 nlt4 nlt5 nlt6 nlt7 nlt8 nlt9 nlt10 nlt11 nlt12

/-- The package-level variables 'none' and 'least' hold what their initialisers lay. -/
def GN (w : World) : Prop := w.cell? ⟨0, 0, none⟩ = some (.int .i64 0) ∧ w.cell? ⟨0, 1, none⟩ = some (.int .u64 0)
theorem GN.below {w w' : World} (h : GN w) (hb : Below w.heap.size w w') : GN w' := by
  have hlt := World.block_lt_of_cell? w _ h.1
  exact ⟨((bcell hb).1 _ _ hlt).trans h.1, ((bcell hb).1 _ _ hlt).trans h.2⟩

set_option maxHeartbeats 1000000 in
theorem wide_Add (a b : Int) (ha : W128 a) (hb : W128 b) (w : World) (hg : GN w) :
    Calls Tryd.prog 45 #[.agg #[.int .i64 (whi a), .int .u64 (wlo a)], .agg #[.int .i64 (whi b), .int .u64 (wlo b)]] w fun e w' => e = .returned (.tuple #[.agg #[.int .i64 (whi (fitW (a + b))), .int .u64 (wlo (fitW (a + b)))], .int .i64 (errW (a + b))]) ∧ Below w.heap.size w w' := by
  have hlt := World.block_lt_of_cell? w _ hg.1
  obtain ⟨g0, g1⟩ := hg
  cases d1 : decide (whi a < 0)
  all_goals cases d2 : decide (whi b < 0)
  all_goals cases d3 : decide (whi (wrapW (a + b)) < 0)
  all_goals first
    | (have F := add_case' ha hb (by rw [d1, d2, d3]; rfl)
       simp only [F.1, F.2, whi0, wlo0]
       clear F
       go_enter Tryd.func45, Tryd.ntmps45
       go_wp2_with (go_at_call 72; refine (wide_plus a b _).mono ?_; rintro e w1 ⟨rfl, hb1⟩; obtain ⟨hc1, hf1⟩ := bcell hb1; have hz1_0 : w.heap.size < w1.heap.size := Nat.lt_of_lt_of_le (by first | (simp; done) | (simp; omega)) hb1.size; have hz1_1 : w.heap.size + 1 < w1.heap.size := Nat.lt_of_lt_of_le (by first | (simp; done) | (simp; omega)) hb1.size; have hz1_2 : w.heap.size + 1 + 1 < w1.heap.size := Nat.lt_of_lt_of_le (by first | (simp; done) | (simp; omega)) hb1.size; have hg10 : 0 < w1.heap.size := Nat.lt_of_lt_of_le (by first | (simp; done) | (simp; omega)) hb1.size)
       refine bodyPost_ret (v := .tuple #[.agg #[.int .i64 0, .int .u64 0], .int .i64 3]) (by simp [results, Tryd.results45, go_sem, *]) rfl ⟨rfl, (by repeat (first | exact Below.refl _ _ | assumption | refine bl_alloc ?_ _ | refine bl_drewN ?_ _ | refine bl_drew ?_ | refine bl_set ?_ (by first | (simp; done) | (simp; omega) | (dsimp only; omega)) _ | refine bl_then ?_ (by assumption)))⟩)
    | (have F := add_case ha hb (by rw [d1, d2, d3]; rfl)
       simp only [F.1, F.2]
       clear F
       go_enter Tryd.func45, Tryd.ntmps45
       go_wp2_with (go_at_call 72; refine (wide_plus a b _).mono ?_; rintro e w1 ⟨rfl, hb1⟩; obtain ⟨hc1, hf1⟩ := bcell hb1; have hz1_0 : w.heap.size < w1.heap.size := Nat.lt_of_lt_of_le (by first | (simp; done) | (simp; omega)) hb1.size; have hz1_1 : w.heap.size + 1 < w1.heap.size := Nat.lt_of_lt_of_le (by first | (simp; done) | (simp; omega)) hb1.size; have hz1_2 : w.heap.size + 1 + 1 < w1.heap.size := Nat.lt_of_lt_of_le (by first | (simp; done) | (simp; omega)) hb1.size; have hg10 : 0 < w1.heap.size := Nat.lt_of_lt_of_le (by first | (simp; done) | (simp; omega)) hb1.size)
       refine bodyPost_ret (v := .tuple #[.agg #[.int .i64 (whi (wrapW (a + b))), .int .u64 (wlo (wrapW (a + b)))], .int .i64 0]) (by simp [results, Tryd.results45, go_sem, *]) rfl ⟨rfl, (by repeat (first | exact Below.refl _ _ | assumption | refine bl_alloc ?_ _ | refine bl_drewN ?_ _ | refine bl_drew ?_ | refine bl_set ?_ (by first | (simp; done) | (simp; omega) | (dsimp only; omega)) _ | refine bl_then ?_ (by assumption)))⟩)

set_option maxHeartbeats 1000000 in
theorem wide_Sub (a b : Int) (ha : W128 a) (hb : W128 b) (w : World) (hg : GN w) :
    Calls Tryd.prog 22 #[.agg #[.int .i64 (whi a), .int .u64 (wlo a)], .agg #[.int .i64 (whi b), .int .u64 (wlo b)]] w fun e w' => e = .returned (.tuple #[.agg #[.int .i64 (whi (fitW (a - b))), .int .u64 (wlo (fitW (a - b)))], .int .i64 (errW (a - b))]) ∧ Below w.heap.size w w' := by
  have hlt := World.block_lt_of_cell? w _ hg.1
  obtain ⟨g0, g1⟩ := hg
  cases d1 : decide (whi a < 0)
  all_goals cases d2 : decide (whi b < 0)
  all_goals cases d3 : decide (whi (wrapW (a - b)) < 0)
  all_goals first
    | (have F := sub_case' ha hb (by rw [d1, d2, d3]; rfl)
       simp only [F.1, F.2, whi0, wlo0]
       clear F
       go_enter Tryd.func22, Tryd.ntmps22
       go_wp2_with (go_at_call 65; refine (wide_less a b _).mono ?_; rintro e w1 ⟨rfl, hb1⟩; obtain ⟨hc1, hf1⟩ := bcell hb1; have hz1_0 : w.heap.size < w1.heap.size := Nat.lt_of_lt_of_le (by first | (simp; done) | (simp; omega)) hb1.size; have hz1_1 : w.heap.size + 1 < w1.heap.size := Nat.lt_of_lt_of_le (by first | (simp; done) | (simp; omega)) hb1.size; have hz1_2 : w.heap.size + 1 + 1 < w1.heap.size := Nat.lt_of_lt_of_le (by first | (simp; done) | (simp; omega)) hb1.size; have hg10 : 0 < w1.heap.size := Nat.lt_of_lt_of_le (by first | (simp; done) | (simp; omega)) hb1.size)
       refine bodyPost_ret (v := .tuple #[.agg #[.int .i64 0, .int .u64 0], .int .i64 3]) (by simp [results, Tryd.results22, go_sem, *]) rfl ⟨rfl, (by repeat (first | exact Below.refl _ _ | assumption | refine bl_alloc ?_ _ | refine bl_drewN ?_ _ | refine bl_drew ?_ | refine bl_set ?_ (by first | (simp; done) | (simp; omega) | (dsimp only; omega)) _ | refine bl_then ?_ (by assumption)))⟩)
    | (have F := sub_case ha hb (by rw [d1, d2, d3]; rfl)
       simp only [F.1, F.2]
       clear F
       go_enter Tryd.func22, Tryd.ntmps22
       go_wp2_with (go_at_call 65; refine (wide_less a b _).mono ?_; rintro e w1 ⟨rfl, hb1⟩; obtain ⟨hc1, hf1⟩ := bcell hb1; have hz1_0 : w.heap.size < w1.heap.size := Nat.lt_of_lt_of_le (by first | (simp; done) | (simp; omega)) hb1.size; have hz1_1 : w.heap.size + 1 < w1.heap.size := Nat.lt_of_lt_of_le (by first | (simp; done) | (simp; omega)) hb1.size; have hz1_2 : w.heap.size + 1 + 1 < w1.heap.size := Nat.lt_of_lt_of_le (by first | (simp; done) | (simp; omega)) hb1.size; have hg10 : 0 < w1.heap.size := Nat.lt_of_lt_of_le (by first | (simp; done) | (simp; omega)) hb1.size)
       refine bodyPost_ret (v := .tuple #[.agg #[.int .i64 (whi (wrapW (a - b))), .int .u64 (wlo (wrapW (a - b)))], .int .i64 0]) (by simp [results, Tryd.results22, go_sem, *]) rfl ⟨rfl, (by repeat (first | exact Below.refl _ _ | assumption | refine bl_alloc ?_ _ | refine bl_drewN ?_ _ | refine bl_drew ?_ | refine bl_set ?_ (by first | (simp; done) | (simp; omega) | (dsimp only; omega)) _ | refine bl_then ?_ (by assumption)))⟩)

end Go.Proofs.YtgodfbhjfhdihaaDoor
