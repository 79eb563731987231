/- Whole structs and rows, by value: out of a block and into the block that was laid last, at one step of the walk. -/
import Derived.Test.YtlinfennhfphiaaDoorSv
import Derived.Deep.MidRow
import Derived.Deep.WholeRow
namespace Go.Proofs.YtlinfennhfphiaaDoor
open Go.RowKit
def descRow : TypeDesc → Bool
  | .struct _ | .array _ _ => true
  | _ => false
section
variable {P : Program}
/-- The whole variable, out of its block. -/
theorem run_loadVar_all {w : World} {g : Nat} {t ty : TypeId} {cs : Array Value} {fr : Nat × Nat} (hg : w.heap[g]? = some (.cells cs t fr))
    (hd : (P.underlying ty).map descRow = some true) (hi : (P.info? ty).map (·.size) = some cs.size) : (loadVar ty ⟨g, 0, none⟩).run P w = .ok (.agg cs) w := by
  cases hu : P.underlying ty with
  | none => rw [hu] at hd; cases hd
  | some d =>
    rw [hu] at hd
    have h1 : descRow d = true := Option.some.inj hd
    cases d with
    | struct f => exact run_loadVar_row w g t ty cs fr _ hg hu rfl hi
    | array n e => exact run_loadVar_row w g t ty cs fr _ hg hu rfl hi
    | _ => cases h1
/-- What a function whose one result lies in a variable hands back. -/
theorem results_row {fn : Func} {tmps : Array Value} {w : World} {a t g : Nat} {v : Value} (hres : fn.results = #[.cell a t])
    (htmp : tmps[a]? = some (.pointer (some ⟨g, 0, none⟩))) (hload : (loadVar t ⟨g, 0, none⟩).run P w = .ok v w) : (results fn tmps).run P w = .ok v w := by
  unfold results
  simp [hres, htmp, hload, asAddr]
/-- A block of the state, whole. -/
theorem St.at {w0 W : World} {bs : Blks} {gs : Bigs} (h : St w0 W bs gs) : ∀ (i : Nat) {b : Nat} {vs : List Value}, bs[i]? = some (b, vs) → W.rangeAt b 0 vs := by
  intro i b vs hi j v hv
  have hmem : (b, vs) ∈ bs := List.mem_of_getElem? hi
  rw [Nat.zero_add]
  exact (h.2.1 _ hmem).2.2.2 j v hv
/-- The step: a whole struct or row is read. -/
theorem wpList_whole {ops : Array Oper} {rest : List Oper} {op : Oper} {a : Act} {w : World} {Q : Exit → Act → World → Prop} (ty : TypeId) {x : Operand} (ho : op.op = .load ty x) (hgd : op.guard = none)
    (b : Nat) (hx : a.eval x = .pointer (some ⟨b, 0, none⟩)) {cs : List Value} (hc : w.rangeAt b 0 cs) (hd : (P.underlying ty).map descRow = some true) (hi : (P.info? ty).map (·.size) = some cs.length)
    (h : wpList P ops Q rest (a.put op.dst (.agg cs.toArray)) w) : wpList P ops Q (op :: rest) a w := by
  cases hu : P.underlying ty with
  | none => rw [hu] at hd; cases hd
  | some d =>
    rw [hu] at hd
    have h1 : descRow d = true := Option.some.inj hd
    cases d with
    | struct f => exact wpList_load_mid hgd ty x ho b 0 hx cs _ hc hu rfl hi h
    | array n e => exact wpList_load_mid hgd ty x ho b 0 hx cs _ hc hu rfl hi h
    | _ => cases h1
/-- The step: a whole struct or row goes into the block that was laid last. -/
theorem wpList_lay {ops : Array Oper} {rest : List Oper} {op : Oper} {a : Act} {w : World} {Q : Exit → Act → World → Prop} (ty : TypeId) {x y : Operand} (ho : op.op = .store ty x y) (hgd : op.guard = none) (hdst : op.dst = none)
    {old : Array Value} {t : TypeId} (hx : a.eval x = .pointer (some ⟨w.heap.size, 0, none⟩)) (cells : Array Value) (hy : a.eval y = .agg cells)
    (hi : (P.info? ty).map (·.size) = some cells.size) (hold : old.size = cells.size) (h1 : cells.all (·.oneCell') = true)
    (h : wpList P ops Q rest a (w.alloc (.cells cells t))) : wpList P ops Q (op :: rest) a (w.alloc (.cells old t)) := by
  refine wpList_store_row hgd ty x y ho w.heap.size cells hx hy t old (heap_alloc_last w _) hi hold h1 ?_
  rw [World.setRow_alloc_new, hdst]
  exact h
end
end Go.Proofs.YtlinfennhfphiaaDoor
