/- Tellings in memory; addresses and loads at places that are letters. -/
import Derived.Test.YtgapefmkbmopnaaZi
import Derived.Test.YtgapefmkbmopnaaZj
namespace Go.Proofs.Ytgapefmkbmopnaa
open Go.RowKit
/-- A list of tellings, field by field. -/
structure Tl where
  mo : Nat → Int
  va : Nat → Bool
  ac : Nat → Bool
  re : Nat → Bool
  he : Nat → Bool
  gr : Nat → Bool
  al : Nat → Int
  sp : Nat → Int
  bi : Nat → Int
def tc (t : Tl) (i : Nat) : List Value := [.int .i64 (t.mo i), .bool (t.va i), .bool (t.ac i), .bool (t.re i), .bool (t.he i), .bool (t.gr i), .int .i64 (t.al i), .int .i64 (t.sp i), .int .i64 (t.bi i)]
/-- From o on the cells are those of n tellings. -/
def Tells (t : Tl) (cs : List Value) (o n : Nat) : Prop := ∀ i, i < n → ∀ j, j < 9 → cs[o + i * 9 + j]? = (tc t i)[j]?
theorem ld_one {P : Program} {b off : Nat} {ty : TypeId} {cs : List Value} {v : Value} {W : World} (hd : (P.underlying ty).map descRows = some false) (hi : ((P.info? ty).map (·.size)).isSome = true) (hv : cs[off]? = some v)
    (hc : ∀ i v, cs[i]? = some v → W.cell? ⟨b, i, none⟩ = some v) : (Instr.loadAt ty (.pointer (some ⟨b, off, none⟩))).run P W = .ok v W := by
  obtain ⟨s, hs⟩ := Option.isSome_iff_exists.1 hi
  refine loadW_sound (b := b) (cs := cs) (q := b = b) ?_ rfl hc
  show (match (P.underlying ty).map descRows, (P.info? ty).map (·.size) with
    | some true, some n => if off + n ≤ cs.length then some (Value.agg ((cs.drop off).take n).toArray, b = b) else none
    | some false, some _ => (cs[off]?).map (·, b = b)
    | _, _ => none) = _
  rw [hd, hs, hv]; rfl
theorem ld_row {P : Program} {b off n : Nat} {ty : TypeId} {cs L : List Value} {W : World} (hd : (P.underlying ty).map descRows = some true) (hi : (P.info? ty).map (·.size) = some n) (hn : L.length = n) (hv : ∀ j, j < n → cs[off + j]? = L[j]?) (h0 : 0 < n)
    (hc : ∀ i v, cs[i]? = some v → W.cell? ⟨b, i, none⟩ = some v) : (Instr.loadAt ty (.pointer (some ⟨b, off, none⟩))).run P W = .ok (.agg L.toArray) W := by
  have hlen : off + n ≤ cs.length := by
    have h1 : cs[off + (n - 1)]? = some (L[n - 1]'(by omega)) := (hv (n - 1) (by omega)).trans (List.getElem?_eq_getElem (by omega))
    have := (List.getElem?_eq_some_iff.1 h1).1
    omega
  have he : (cs.drop off).take n = L := by
    apply List.ext_getElem?
    intro j
    rw [List.getElem?_take, List.getElem?_drop]
    split
    · rename_i hj; exact hv j hj
    · rw [List.getElem?_eq_none (by omega)]
  refine loadW_sound (b := b) (cs := cs) (q := b = b) ?_ rfl hc
  show (match (P.underlying ty).map descRows, (P.info? ty).map (·.size) with
    | some true, some n => if off + n ≤ cs.length then some (Value.agg ((cs.drop off).take n).toArray, b = b) else none
    | some false, some _ => (cs[off]?).map (·, b = b)
    | _, _ => none) = _
  rw [hd, hi]
  show (if off + n ≤ cs.length then some (Value.agg ((cs.drop off).take n).toArray, b = b) else none) = _
  rw [if_pos hlen, he]
section
variable {es sb : Blks} {b o n c k : Nat} {cs : List Value} {t : Tl}
theorem ix_told (b o n c k : Nat) (h : k < n) : FactV Try.prog (do pure (.value (← Instr.indexAt 22 (.slice (some ⟨b, o, none⟩) n c) (.int .i64 (k : Int))))) (.pointer (some ⟨b, o + k * 9, none⟩)) := by
  intro W
  have hu : Try.prog.underlying 22 = some (.slice 29) := by kernel_rfl
  simp [Instr.indexAt, run_underlying hu, asIntOf, h, Addr.add_lit]
theorem ld_cell (es sb : Blks) (ty : TypeId) {b off : Nat} {cs : List Value} {v : Value} (hm : (b, cs) ∈ es) (hd : (Try.prog.underlying ty).map descRows = some false) (hi : ((Try.prog.info? ty).map (·.size)).isSome = true) (hv : cs[off]? = some v) :
    LdX Try.prog es sb (do pure (.value (← Instr.loadAt ty (.pointer (some ⟨b, off, none⟩))))) v := by
  intro W hW
  have := ld_one hd hi hv (hW.2 _ hm)
  simp [this]
theorem ld_va (es sb : Blks) (hm : (b, cs) ∈ es) (hT : Tells t cs o n) (h : k < n) : LdX Try.prog es sb (do pure (.value (← Instr.loadAt 4 (.pointer (some ⟨b, o + k * 9 + 1, none⟩))))) (.bool (t.va k)) :=
  ld_cell es sb _ hm (by kernel_rfl) (by kernel_rfl) (hT k h 1 (by decide))
theorem ld_al (es sb : Blks) (hm : (b, cs) ∈ es) (hT : Tells t cs o n) (h : k < n) : LdX Try.prog es sb (do pure (.value (← Instr.loadAt 2 (.pointer (some ⟨b, o + k * 9 + 6, none⟩))))) (.int .i64 (t.al k)) :=
  ld_cell es sb _ hm (by kernel_rfl) (by kernel_rfl) (hT k h 6 (by decide))
theorem ld_all (es sb : Blks) (hm : (b, cs) ∈ es) (hT : Tells t cs o n) (h : k < n) : LdX Try.prog es sb (do pure (.value (← Instr.loadAt 29 (.pointer (some ⟨b, o + k * 9, none⟩))))) (.agg #[.int .i64 (t.mo k), .bool (t.va k), .bool (t.ac k), .bool (t.re k), .bool (t.he k), .bool (t.gr k), .int .i64 (t.al k), .int .i64 (t.sp k), .int .i64 (t.bi k)]) := by
  intro W hW
  have := ld_row (n := 9) (ty := 29) (P := Try.prog) (by kernel_rfl) (by kernel_rfl) (L := tc t k) rfl (fun j hj => hT k h j hj) (by decide) (hW.2 _ hm)
  simp [this, tc]
end
end Go.Proofs.Ytgapefmkbmopnaa
