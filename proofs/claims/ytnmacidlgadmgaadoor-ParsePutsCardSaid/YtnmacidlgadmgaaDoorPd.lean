/- Layer 14 (parse): the library's functions in plans; need; the rows. -/
import Derived.Test.YtnmacidlgadmgaaDoorPc
import Derived.WalkLawsBesides
namespace Go.Proofs.YtnmacidlgadmgaaDoor
open Go.RowKit
set_option linter.unusedSimpArgs false
set_option linter.unusedVariables false
/-- What the library reads of its variables. -/
structure PK (w : World) : Prop where
  lt : 0 < w.heap.size
  pow : Lib.TabIs Tryd.prog w "internal/strconv.uint64pow10" .u64 Lib.pow10Tab
  ml : ∃ m, w.cell? ⟨3, 0, none⟩ = some (.int .i64 m)
  es : ∃ te pe, w.cell? ⟨1, 0, none⟩ = some (.iface te pe)
  er : ∃ te pe, w.cell? ⟨2, 0, none⟩ = some (.iface te pe)
theorem PK.below {w W : World} (h : PK w) (hb : Below w.heap.size w W) : PK W := by
  obtain ⟨m, hm⟩ := h.ml
  obtain ⟨t1, p1, h1⟩ := h.es
  obtain ⟨t2, p2, h2⟩ := h.er
  refine ⟨Nat.lt_of_lt_of_le h.lt hb.size, ?_, ⟨m, cell_bl hb hm⟩, ⟨t1, p1, cell_bl hb h1⟩, ⟨t2, p2, cell_bl hb h2⟩⟩
  have hg : Tryd.prog.globalNamed "internal/strconv.uint64pow10" = some 0 := by kernel_rfl
  have hp := h.pow
  unfold Lib.TabIs World.var? at hp ⊢
  rw [hg] at hp ⊢
  simp only [Option.bind_some] at hp ⊢
  rw [hb.block _ h.lt]; exact hp
theorem fmt_Int {x : Int} (hx : I64 x) (w : World) (h : PK w) : Calls Tryd.prog 12 #[.int .i64 x, .int .i64 10] w fun e w' => e = .returned (.string ⟨(Lib.itoa x).toArray⟩) ∧ Below w.heap.size w w' := by
  unfold I64 at hx
  refine (Tryd.strconv_FormatInt_10 x (by omega) (by omega) w h.pow).mono ?_
  rintro e w' ⟨rfl, k, os, rfl⟩
  refine ⟨rfl, rfl, rfl, rfl, ?_, fun i hi => Sort.heap_grow_old _ _ hi⟩
  show w.heap.size ≤ (w.heap ++ os).size
  rw [Array.size_append]; omega
def wdL (s : ByteArray) (c : UInt8) : List Value := (spB s c).map Value.string
theorem wdL_at {s : ByteArray} {c : UInt8} {i : Nat} (h : i < Lib.countB s ⟨#[c]⟩ + 1) : (wdL s c)[i]? = some (.string (pcB s c i)) := by
  have hl : i < (spB s c).length := by rw [spB_len]; exact h
  unfold wdL pcB
  rw [List.getElem?_map, List.getElem?_eq_getElem hl, List.getD_eq_getElem?_getD, List.getElem?_eq_getElem hl]; rfl
theorem bytes_below (W : World) (t : ByteArray) : Below W.heap.size W (Lib.bytesWorld W 5 t) := by
  unfold Lib.bytesWorld
  exact Lib.below_freeze ((bl_drew (Below.refl _ _)).alloc (Nat.le_refl _) _) (Nat.le_refl _) 1
section
variable {B : Base} {bs : Blks} {rs : Rws} {os : Lps}
theorem split_M (s : ByteArray) (c : UInt8) (hK : ∀ W, Sx B W bs [] rs os → PK W) (hs : s.size < 4294967281) :
    CallMX Tryd.prog B bs [] rs os 15 #[.string s, .string ⟨#[c]⟩] (fun ρ => (.slice (some ⟨ρ 0, 0, none⟩) (Lib.countB s ⟨#[c]⟩ + 1) (Lib.countB s ⟨#[c]⟩ + 1), bs ++ [(ρ 0, wdL s c)], rs ++ [(bs.length, 9, Lib.countB s ⟨#[c]⟩ + 1)])) := by
  intro W hS
  obtain ⟨m, hm⟩ := (hK W hS).ml
  refine (Tryd.strings_Split s ⟨#[c]⟩ m W hs hm (by show 1 ≤ 1; exact Nat.le_refl _)).mono ?_
  rintro e w' ⟨rfl, rfl⟩
  refine ⟨fun _ => W.heap.size, rfl, fun ds hM => hM.call ((Below.refl _ _).alloc (Nat.le_refl _) _), ?_⟩
  have := hS.lay (wdL s c) 9
  have hl : (wdL s c).length = Lib.countB s ⟨#[c]⟩ + 1 := by unfold wdL; rw [List.length_map, spB_len]
  rw [hl] at this
  exact this
/-- Is it a number's text? Which one's? -/
def okS (s : ByteArray) : Bool := match Lib.parseIntB 64 s.data.toList with
  | .ok _ => true
  | _ => false
def vlS (s : ByteArray) : Int := match Lib.parseIntB 64 s.data.toList with
  | .ok v => v
  | _ => 0
def psE (b : Bool) (r : Nat) : Value := if b then .nilIface else .iface 90 (.pointer (some ⟨r, 0, none⟩))
def psV (s : ByteArray) (q : Nat → Nat) : Int := if okS s then vlS s else (q 1 : Int) - (q 2 : Int)
theorem parse_M (s : ByteArray) (hK : ∀ W, Sx B W bs [] rs os → PK W) (hs : s.size < 4294967281) :
    CallMX Tryd.prog B bs [] rs os 17 #[.string s, .int .i64 10, .int .i64 64] (fun ρ => (.tuple #[.int .i64 (psV s ρ), psE (okS s) (ρ 0)], bs, rs)) := by
  intro W hS
  have hP := hK W hS
  cases hq : Lib.parseIntB 64 s.data.toList
  · rename_i v
    have e1 : okS s = true := by unfold okS; rw [hq]
    have e2 : vlS s = v := by unfold vlS; rw [hq]
    refine (Tryd.strconv_ParseInt_10_at64_ok s (by omega) v hq W).mono ?_
    rintro e w' ⟨rfl, hw⟩
    have hb : Below W.heap.size W w' := by
      rcases hw with rfl | ⟨t, rfl⟩
      · exact Below.refl _ _
      · exact bytes_below W t
    refine ⟨fun _ => 0, ?_, fun ds hM => hM.call hb, hS.call hb⟩
    simp only [psV, psE, e1, e2, if_true]
  all_goals
    have e1 : okS s = false := by unfold okS; rw [hq]
    obtain ⟨te, pe, hv⟩ := hP.es
    obtain ⟨te', pe', hv'⟩ := hP.er
    refine (Tryd.parse_err s (by omega) (fun v => by rw [hq]; simp) _ W hv (Or.inr ⟨te, pe, rfl⟩) _ hv' (Or.inr ⟨te', pe', rfl⟩)).mono ?_
    rintro e w' ⟨x, N, rfl, hb⟩
    refine ⟨fun i => match i with | 0 => N | 1 => x.toNat | _ => (-x).toNat, ?_, fun ds hM => hM.call hb, hS.call hb⟩
    simp only [psV, psE, e1, Bool.false_eq_true, if_false]
    rw [show ((x.toNat : Nat) : Int) - (((-x).toNat : Nat) : Int) = x from by omega]
end
theorem nil_fact (b : Bool) (r : Nat) : FactV Tryd.prog (execOp (KX.ev ⟨[], #[psE b r], [], [], [], [], .ctl⟩) { dst := none, op := .binOp .eql 46 (.tmp 0) (.const .nilIface) 46, type := 4, pos := "", after := #[], guard := none }) (.bool b) := by
  intro W
  cases b <;> simp [go_sem, KX.ev, psE]
theorem cat_fact (a b : ByteArray) (h : a.size + b.size ≤ 9223372036854775807) : FactV Tryd.prog (execOp (KX.ev ⟨[], #[.string a, .string b], [], [], [], [], .ctl⟩) { dst := none, op := .binOp .add 9 (.tmp 0) (.tmp 1) 9, type := 9, pos := "", after := #[], guard := none }) (.string (a ++ b)) := by
  intro W
  have : ¬ ((9223372036854775807 : Int) < (a.size : Int) + (b.size : Int)) := by omega
  simp [go_sem, KX.ev, Op.stringOp, this]
theorem okS_of {s : ByteArray} {x : Int} (hx : I64 x) (h : s.data.toList = Lib.itoa x) : okS s = true ∧ vlS s = x := by
  have := parse_itoa hx
  unfold okS vlS
  rw [h, this]; exact ⟨rfl, rfl⟩
/-! ### need -/
def wrongV : Value := .iface 53 (.agg #[])
theorem need_false (w : World) : Calls Tryd.prog 16 #[.bool false] w fun e w' => e = .panicked [{ v := wrongV, recovered := false }] ∧ w = w' := by
  go_enter Tryd.func16, Tryd.ntmps16
  go_wp2
  first | exact ⟨rfl, rfl, rfl⟩ | exact ⟨⟨rfl, rfl⟩, rfl⟩ | (simp [bodyPost]; trace_state)
end Go.Proofs.YtnmacidlgadmgaaDoor
