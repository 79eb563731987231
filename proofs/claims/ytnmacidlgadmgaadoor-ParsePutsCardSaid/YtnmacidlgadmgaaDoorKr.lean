/- Whole structs and rows, by value: out of a block and into the block that was laid last, at one step of the walk. -/
/- The state of a call: its cells, parts of its blocks; whole structs stored into a block of the state; results that lie in variables. -/
import Derived.Deep.MidRow
import Derived.Deep.WholeRow
import Derived.Test.YtnmacidlgadmgaaDoorSv
namespace Go.Proofs.YtnmacidlgadmgaaDoor
open Go.RowKit
def descRow : TypeDesc → Bool
  | .struct _ | .array _ _ => true
  | _ => false
section
variable {P : Program}
/-- The whole variable, out of its block. -/
theorem run_loadVar_all {w : World} {g : Nat} {t ty : TypeId} {cs : Array Value} {fr : Nat × Nat} (hg : w.heap[g]? = some (.cells cs t fr))
    (hd : (P.underlying ty).map descRow = some true) (hi : (P.info? ty).map (·.size) = some cs.size) : (loadVar ty ⟨g, 0, none⟩).run P w = .ok (.agg cs) w := by
  cases hu : P.underlying ty with
  | none => rw [hu] at hd; cases hd
  | some d =>
    rw [hu] at hd
    have h1 : descRow d = true := Option.some.inj hd
    cases d with
    | struct f => exact run_loadVar_row w g t ty cs fr _ hg hu rfl hi
    | array n e => exact run_loadVar_row w g t ty cs fr _ hg hu rfl hi
    | _ => cases h1
/-- What a function whose one result lies in a variable hands back. -/
theorem results_row {fn : Func} {tmps : Array Value} {w : World} {a t g : Nat} {v : Value} (hres : fn.results = #[.cell a t])
    (htmp : tmps[a]? = some (.pointer (some ⟨g, 0, none⟩))) (hload : (loadVar t ⟨g, 0, none⟩).run P w = .ok v w) : (results fn tmps).run P w = .ok v w := by
  unfold results
  simp [hres, htmp, hload, asAddr]
/-- A block of the state, whole. -/
theorem St.at {w0 W : World} {bs : Blks} {gs : Bigs} (h : St w0 W bs gs) : ∀ (i : Nat) {b : Nat} {vs : List Value}, bs[i]? = some (b, vs) → W.rangeAt b 0 vs := by
  intro i b vs hi j v hv
  have hmem : (b, vs) ∈ bs := List.mem_of_getElem? hi
  rw [Nat.zero_add]
  exact (h.2.1 _ hmem).2.2.2 j v hv
/-- The step: a whole struct or row is read. -/
theorem wpList_whole {ops : Array Oper} {rest : List Oper} {op : Oper} {a : Act} {w : World} {Q : Exit → Act → World → Prop} (ty : TypeId) {x : Operand} (ho : op.op = .load ty x) (hgd : op.guard = none)
    (b : Nat) (hx : a.eval x = .pointer (some ⟨b, 0, none⟩)) {cs : List Value} (hc : w.rangeAt b 0 cs) (hd : (P.underlying ty).map descRow = some true) (hi : (P.info? ty).map (·.size) = some cs.length)
    (h : wpList P ops Q rest (a.put op.dst (.agg cs.toArray)) w) : wpList P ops Q (op :: rest) a w := by
  cases hu : P.underlying ty with
  | none => rw [hu] at hd; cases hd
  | some d =>
    rw [hu] at hd
    have h1 : descRow d = true := Option.some.inj hd
    cases d with
    | struct f => exact wpList_load_mid hgd ty x ho b 0 hx cs _ hc hu rfl hi h
    | array n e => exact wpList_load_mid hgd ty x ho b 0 hx cs _ hc hu rfl hi h
    | _ => cases h1
/-- The step: a whole struct or row goes into the block that was laid last. -/
theorem wpList_lay {ops : Array Oper} {rest : List Oper} {op : Oper} {a : Act} {w : World} {Q : Exit → Act → World → Prop} (ty : TypeId) {x y : Operand} (ho : op.op = .store ty x y) (hgd : op.guard = none) (hdst : op.dst = none)
    {old : Array Value} {t : TypeId} (hx : a.eval x = .pointer (some ⟨w.heap.size, 0, none⟩)) (cells : Array Value) (hy : a.eval y = .agg cells)
    (hi : (P.info? ty).map (·.size) = some cells.size) (hold : old.size = cells.size) (h1 : cells.all (·.oneCell') = true)
    (h : wpList P ops Q rest a (w.alloc (.cells cells t))) : wpList P ops Q (op :: rest) a (w.alloc (.cells old t)) := by
  refine wpList_store_row hgd ty x y ho w.heap.size cells hx hy t old (heap_alloc_last w _) hi hold h1 ?_
  rw [World.setRow_alloc_new, hdst]
  exact h
end
end Go.Proofs.YtnmacidlgadmgaaDoor

namespace Go.Proofs.YtnmacidlgadmgaaDoor
open Go.RowKit
theorem St.cell {w0 W : World} {bs : Blks} {gs : Bigs} (h : St w0 W bs gs) (k i : Nat) {b : Nat} {vs : List Value} {v : Value} (hk : bs[k]? = some (b, vs)) (hv : vs[i]? = some v) : W.cell? ⟨b, i, none⟩ = some v := by
  have := h.at k hk i v hv
  rwa [Nat.zero_add] at this
/-- A whole struct, in a region that draws its order. -/
theorem yieldsIf_whole {P : Program} {ops : Array Oper} {S : World → Prop} {op : Oper} {a : Act} (ty : TypeId) {x : Operand} (ho : op.op = .load ty x) (hw : Region.wanted op (yielded ops a.tmps) = true)
    (b : Nat) (hx : a.eval x = .pointer (some ⟨b, 0, none⟩)) {cs : List Value} (hS : ∀ w, S w → w.rangeAt b 0 cs) (hd : (P.underlying ty).map descRow = some true) (hi : (P.info? ty).map (·.size) = some cs.length) :
    YieldsIf P ops S op (.agg cs.toArray) a := by
  cases hu : P.underlying ty with
  | none => rw [hu] at hd; cases hd
  | some d =>
    rw [hu] at hd
    have h1 : descRow d = true := Option.some.inj hd
    cases d with
    | struct f => exact yieldsIf_load_mid hw ty x ho b 0 hx cs _ hS hu rfl hi
    | array n e => exact yieldsIf_load_mid hw ty x ho b 0 hx cs _ hS hu rfl hi
    | _ => cases h1
/-- A part of a block of the state. -/
theorem St.atOff {w0 W : World} {bs : Blks} {gs : Bigs} (h : St w0 W bs gs) (i o : Nat) {b : Nat} {vs cs : List Value} (hi : bs[i]? = some (b, vs)) (hd : vs.drop o = cs) : W.rangeAt b o cs := by
  intro j v hv
  subst hd
  rw [List.getElem?_drop] at hv
  have := h.at i hi (o + j) v hv
  rwa [Nat.zero_add] at this
/-- The step: a whole struct or row is read, out of the middle of a block. -/
theorem wpList_part {P : Program} {ops : Array Oper} {rest : List Oper} {op : Oper} {a : Act} {w : World} {Q : Exit → Act → World → Prop} (ty : TypeId) {x : Operand} (ho : op.op = .load ty x) (hgd : op.guard = none)
    (b o : Nat) (hx : a.eval x = .pointer (some ⟨b, o, none⟩)) {cs : List Value} (hc : w.rangeAt b o cs) (hd : (P.underlying ty).map descRow = some true) (hi : (P.info? ty).map (·.size) = some cs.length)
    (h : wpList P ops Q rest (a.put op.dst (.agg cs.toArray)) w) : wpList P ops Q (op :: rest) a w := by
  cases hu : P.underlying ty with
  | none => rw [hu] at hd; cases hd
  | some d =>
    rw [hu] at hd
    have h1 : descRow d = true := Option.some.inj hd
    cases d with
    | struct f => exact wpList_load_mid hgd ty x ho b o hx cs _ hc hu rfl hi h
    | array n e => exact wpList_load_mid hgd ty x ho b o hx cs _ hc hu rfl hi h
    | _ => cases h1
section
variable {P : Program}
theorem setCells_St {w0 : World} {b : Nat} : ∀ (cs pre old : List Value) {W : World} {bs : Blks} (k : Nat), St w0 W bs [] → bs[k]? = some (b, pre ++ old) → old.length = cs.length →
    St w0 (W.setCells b pre.length cs) (bs.set k (b, pre ++ cs)) []
  | [], pre, old, W, bs, k, h, hk, hl => by
    obtain rfl : old = [] := List.eq_nil_of_length_eq_zero hl
    have e : bs.set k (b, pre ++ []) = bs := by
      obtain ⟨hkl, hv⟩ := List.getElem?_eq_some_iff.1 hk
      rw [← hv]; exact List.set_getElem_self hkl
    rw [e]; exact h
  | c :: cs, pre, [], W, bs, k, h, hk, hl => by cases hl
  | c :: cs, pre, o :: old, W, bs, k, h, hk, hl => by
    have hkl : k < bs.length := (List.getElem?_eq_some_iff.1 hk).1
    obtain ⟨v0, vs, e0⟩ : ∃ v0 vs, pre ++ o :: old = v0 :: vs := by cases pre with | nil => exact ⟨_, _, rfl⟩ | cons x r => exact ⟨_, _, rfl⟩
    have h1 := St.set h k pre.length (by rw [hk, e0]) (by rw [← e0]; simp) (Or.inl rfl) c
    rw [← e0, show (pre ++ o :: old).set pre.length c = (pre ++ [c]) ++ old from by simp] at h1
    have h2 := setCells_St cs (pre ++ [c]) old k h1 (by rw [List.getElem?_set, if_pos rfl, if_pos hkl]) (by simpa using hl)
    rw [List.set_set] at h2
    simp only [List.length_append, List.length_cons, List.length_nil, List.append_assoc, List.cons_append, List.nil_append] at h2
    exact h2
/-- The step: a whole struct or row goes into a block of the state; the world behind it is a letter. -/
theorem wpList_storeAll {ops : Array Oper} {rest : List Oper} {op : Oper} {a : Act} {w0 w : World} {Q : Exit → Act → World → Prop} (ty : TypeId) {x y : Operand} (ho : op.op = .store ty x y) (hgd : op.guard = none) (hdst : op.dst = none)
    (b : Nat) (hx : a.eval x = .pointer (some ⟨b, 0, none⟩)) (cells : Array Value) (hy : a.eval y = .agg cells) {bs : Blks} (S : St w0 w bs []) (k : Nat) {old : List Value} (hk : bs[k]? = some (b, old)) (hl : old.length = cells.size)
    (hi : (P.info? ty).map (·.size) = some cells.size) (h1 : cells.all (·.oneCell') = true)
    (h : ∀ w', St w0 w' (bs.set k (b, cells.toList)) [] → wpList P ops Q rest a w') : wpList P ops Q (op :: rest) a w := by
  obtain ⟨k1, k2, k3, k4⟩ := S.2.1 _ (List.mem_of_getElem? hk)
  have ht : w.there b 0 cells.size := fun j hj => by
    rw [Nat.zero_add]
    have hj' : j < old.length := by omega
    exact ⟨by rw [k4 j _ (List.getElem?_eq_getElem hj')]; rfl, k3 j⟩
  refine wpList_store_mid hgd ty x y ho b 0 cells hx hy ht hi h1 ?_
  rw [hdst]
  exact h _ (setCells_St cells.toList [] old k S hk (by simpa using hl))
/-- The whole variable, out of a range. -/
theorem run_loadVar_part {w : World} {b o : Nat} {ty : TypeId} {cs : List Value} (hc : w.rangeAt b o cs) (hd : (P.underlying ty).map descRow = some true) (hi : (P.info? ty).map (·.size) = some cs.length) :
    (loadVar ty ⟨b, o, none⟩).run P w = .ok (.agg cs.toArray) w := by
  cases hu : P.underlying ty with
  | none => rw [hu] at hd; cases hd
  | some d =>
    rw [hu] at hd
    have h1 : descRow d = true := Option.some.inj hd
    cases d with
    | struct f => exact run_loadVar_mid w b o ty cs _ hc hu rfl hi
    | array n e => exact run_loadVar_mid w b o ty cs _ hc hu rfl hi
    | _ => cases h1
/-- Two results, the first of which lies in a variable. -/
theorem results_row2 {fn : Func} {tmps : Array Value} {w : World} {a t b g : Nat} {v u : Value} (hres : fn.results = #[.cell a t, .tmp b])
    (htmp : tmps[a]? = some (.pointer (some ⟨g, 0, none⟩))) (hu : tmps[b]? = some u) (hload : (loadVar t ⟨g, 0, none⟩).run P w = .ok v w) : (results fn tmps).run P w = .ok (.tuple #[v, u]) w := by
  unfold results
  simp [hres, htmp, hu, hload, asAddr]
end
/-- A part of a block of the state, from o on. -/
theorem St.atTake {w0 W : World} {bs : Blks} {gs : Bigs} (h : St w0 W bs gs) (i o : Nat) {b : Nat} {vs cs r : List Value} (hi : bs[i]? = some (b, vs)) (hd : vs.drop o = cs ++ r) : W.rangeAt b o cs := by
  intro j v hv
  exact h.atOff i o hi hd j v (by rw [List.getElem?_append_left (List.getElem?_eq_some_iff.1 hv).1]; exact hv)
end Go.Proofs.YtnmacidlgadmgaaDoor
