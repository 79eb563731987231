/- Walks of the reference's big numbers, sixth part: the other sign, sums, differences, how two stand. -/
import Derived.Test.YtgodfbhjfhdihaaDoorRf
import Derived.Deep.RegionWith
namespace Go.Proofs.YtgodfbhjfhdihaaDoor
open Go.RowKit
attribute [local go_sem] nlt2 nlt3 nlt4 nlt5 nlt6 nlt7 nlt8 nlt9 nlt10 nlt11 nlt12

/-- A number's sign, as the reference keeps it. -/
def sg (z : Int) : Bool := decide (z < 0)
theorem sg_true {z : Int} : sg z = true ↔ z < 0 := decide_eq_true_iff
theorem sg_false {z : Int} : sg z = false ↔ ¬ z < 0 := decide_eq_false_iff_not
/-- A big number is handed back. -/
def BigR (w : World) (z : Int) (e : Ending) (w' : World) : Prop :=
  ∃ (A : Option Addr) (c : Nat), e = .returned (.agg #[.bool (sg z), .slice A (nd z) c]) ∧ RB w' A c z ∧ Below w.heap.size w w'

/-- A big number stored whole into a block that held one. -/
theorem RB.store2 {w : World} {A : Option Addr} {c : Nat} {z : Int} (h : RB w A c z) {b0 : Nat} {s v : Bool} {u : Value} (hv : w.cell? ⟨b0, 0, none⟩ = some (.bool v)) :
    RB ((w.setCell ⟨b0, 0, none⟩ (.bool s)).setCell ⟨b0, 1, none⟩ u) A c z :=
  RS.store (RS.store h hv) (World.cell?_setCell_same _ _ _ hv)
theorem ref_cutB (neg : Bool) (A : Option Addr) (c : Nat) (xs : List Int) (z : Int) (hd : Dg xs) (hz : z = if neg then -vald xs else vald xs) (w : World) (h : RS w A c xs) :
    Calls Tryd.prog 75 #[.bool neg, .slice A xs.length c] w fun e w' => e = .returned (.agg #[.bool (sg z), .slice A (nd z) c]) ∧ RB w' A c z ∧ Below w.heap.size w w' :=
  ref_cut neg A c xs z hd hz w h
theorem ref_nat (x : Int) (hx : U64 x) (w : World) : Calls Tryd.prog 73 #[.int .u64 x] w (BigR w x) := by
  have e : sg x = false := sg_false.2 (by have := hx.1; omega)
  refine (ref_natural x hx w).mono ?_
  rintro e w' ⟨A, c, rfl, hr, hb⟩
  exact ⟨A, c, by rw [e], hr, hb⟩

set_option maxRecDepth 100000 in
set_option maxHeartbeats 1000000 in
theorem ref_Turn (a : Int) (A : Option Addr) (c : Nat) (w : World) (h : RB w A c a) :
    Calls Tryd.prog 61 #[.agg #[.bool (sg a), .slice A (nd a) c]] w (BigR w (-a)) := by
  have HA := Asd.mk h
  have hz : -a = if (!sg a) then -vald (dg a) else vald (dg a) := by
    rw [vald_dg]
    cases hs : sg a
    · have := sg_false.1 hs; simp; omega
    · have := sg_true.1 hs; simp; omega
  have HC := Asd.mk (fun W hW => ref_cutB (!sg a) A c (dg a) (-a) (dg_Dg a) hz W hW)
  clear h hz
  go_enter Tryd.func61, Tryd.ntmps61
  go_wp2_with (go_at_call 75; refine (HC.out _ (by exact RS.alloc (RS.alloc HA.out _) _)).mono ?_; rintro e w1 ⟨rfl, hr1, hb1⟩; obtain ⟨p0, p1, p2, p3⟩ : Bx w1 (w.heap.size + 1) (.bool false) (.slice none 0 0) := Bx.low hb1 (by first | (simp; done) | (simp; omega)) (by simp (maxDischargeDepth := 9) [Bx, go_sem, *]); obtain ⟨hc1, hf1⟩ := bcell hb1; have hz1_0 : w.heap.size < w1.heap.size := Nat.lt_of_lt_of_le (by first | (simp; done) | (simp; omega)) hb1.size; have hz1_1 : w.heap.size + 1 < w1.heap.size := Nat.lt_of_lt_of_le (by first | (simp; done) | (simp; omega)) hb1.size)
  refine bodyPost_ret (v := .agg #[.bool (sg (-a)), .slice A (nd (-a)) c]) (by simp (maxDischargeDepth := 9) [results, Tryd.results61, go_sem, *]) rfl ⟨_, _, rfl, RB.store2 hr1 p0, (by repeat (first | exact Below.refl _ _ | assumption | refine bl_alloc ?_ _ | refine bl_drewN ?_ _ | refine bl_drew ?_ | refine bl_set ?_ (by first | (simp; done) | (simp; omega) | (dsimp only; omega)) _ | refine bl_then ?_ (by assumption)))⟩
end Go.Proofs.YtgodfbhjfhdihaaDoor
