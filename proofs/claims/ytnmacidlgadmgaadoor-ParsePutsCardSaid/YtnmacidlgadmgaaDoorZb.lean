/- The second engine, second part: what is known of the memory while a call is under way: blocks that it may write (its own, and those handed to it), rows that may be appended to, records of ranges over functions. -/
import Derived.Test.YtnmacidlgadmgaaDoorZa
import Derived.RangeFuncRecord
import Derived.Laws.AppendOwn
namespace Go.Proofs.YtnmacidlgadmgaaDoor
open Go.RowKit

/-- The world where the call began, and the blocks of it that may turn. -/
structure Base where
  w : World
  X : Nat → Prop
structure BelX (B : Base) (W : World) : Prop where
  os : W.os = B.w.os
  tape : W.tape = B.w.tape
  output : W.output = B.w.output
  size : B.w.heap.size ≤ W.heap.size
  block : ∀ k, k < B.w.heap.size → ¬ B.X k → W.heap[k]? = B.w.heap[k]?
theorem BelX.refl {w : World} {X : Nat → Prop} : BelX ⟨w, X⟩ w := ⟨rfl, rfl, rfl, Nat.le_refl _, fun _ _ _ => rfl⟩
theorem BelX.below {w W : World} (h : BelX ⟨w, fun _ => False⟩ W) : Below w.heap.size w W := ⟨h.os, h.tape, h.output, h.size, fun k hk => h.block k hk id⟩
theorem BelX.of {w W : World} {X : Nat → Prop} (h : Below w.heap.size w W) : BelX ⟨w, X⟩ W := ⟨h.os, h.tape, h.output, h.size, fun k hk _ => h.block k hk⟩
theorem BelX.mono {w W : World} {X Y : Nat → Prop} (h : BelX ⟨w, X⟩ W) (hXY : ∀ b, b < w.heap.size → X b → Y b) : BelX ⟨w, Y⟩ W := ⟨h.os, h.tape, h.output, h.size, fun k hk hn => h.block k hk (fun hx => hn (hXY k hk hx))⟩
theorem BelX.change {B : Base} {W W1 : World} {Y : Nat → Prop} (h : BelX B W) (k : BelX ⟨W, Y⟩ W1) (hY : ∀ b, b < W.heap.size → Y b → B.w.heap.size ≤ b ∨ B.X b) : BelX B W1 :=
  ⟨k.os.trans h.os, k.tape.trans h.tape, k.output.trans h.output, Nat.le_trans h.size k.size, fun i hi hn => by
    have hi' : i < W.heap.size := Nat.lt_of_lt_of_le hi h.size
    refine (k.block i hi' (fun hy => ?_)).trans (h.block i hi hn)
    rcases hY i hi' hy with q | q
    · omega
    · exact hn q⟩
/-- Rows: (a block's place in the list, its element type, how many cells it has). -/
abbrev Rws := List (Nat × TypeId × Nat)
abbrev Lps := List (Nat × Loop)
structure Sx (B : Base) (W : World) (bs : Blks) (gs : Bigs) (rs : Rws) (os : Lps) : Prop where
  bx : BelX B W
  blk : ∀ x ∈ bs, (B.w.heap.size ≤ x.1 ∨ B.X x.1) ∧ (∃ o : Obj, W.heap[x.1]? = some o ∧ o.isCells = true) ∧ (∀ i, W.frozen? ⟨x.1, i, none⟩ = false) ∧ ∀ i v, x.2[i]? = some v → W.cell? ⟨x.1, i, none⟩ = some v
  nd : (bs.map (·.1)).Nodup
  bg : ∀ g ∈ gs, RB W g.1 g.2.1 g.2.2
  rw : ∀ r ∈ rs, ∃ b cs cur, bs[r.1]? = some (b, cs) ∧ W.heap[b]? = some (.cells cur r.2.1 (0, 0)) ∧ cur.size = r.2.2
  ob : ∀ y ∈ os, (B.w.heap.size ≤ y.1 ∨ B.X y.1) ∧ W.heap[y.1]? = some (.loop y.2)
  on : (os.map (·.1)).Nodup
/-- The marks on the activation's deferred calls. -/
def Mk (B : Base) (W : World) (ds : List Nat) : Prop := ds.Nodup ∧ ∀ D ∈ ds, B.w.heap.size ≤ D ∧ W.heap[D]? = some (.deferred (some []))
section
variable {B : Base} {W W1 : World} {bs : Blks} {gs : Bigs} {rs : Rws} {os : Lps} {ds : List Nat}
theorem Sx.lt (h : Sx B W bs gs rs os) {x : Nat × List Value} (hx : x ∈ bs) : x.1 < W.heap.size := by
  obtain ⟨_, ⟨o, ho, _⟩, _⟩ := h.blk x hx
  exact (Array.getElem?_eq_some_iff.1 ho).1
theorem Sx.refl (w : World) (X : Nat → Prop) : Sx ⟨w, X⟩ w [] [] [] [] :=
  ⟨BelX.refl, fun _ h => (by cases h), List.nodup_nil, fun _ h => (by cases h), fun _ h => (by cases h), fun _ h => (by cases h), List.nodup_nil⟩
theorem Sx.bl {w : World} (h : Sx ⟨w, fun _ => False⟩ W bs gs rs os) : Below w.heap.size w W := h.bx.below
/-- An old cell that may not turn. -/
theorem Sx.old (h : Sx B W bs gs rs os) {b : Nat} (hb : b < B.w.heap.size) (hX : ¬ B.X b) (o : Nat) : W.cell? ⟨b, o, none⟩ = B.w.cell? ⟨b, o, none⟩ :=
  World.cell?_of_block (a := ⟨b, o, none⟩) (h.bx.block b hb hX)
theorem Sx.oldc (h : Sx B W bs gs rs os) {b o : Nat} {v : Value} (hX : ¬ B.X b) (hc : B.w.cell? ⟨b, o, none⟩ = some v) : W.cell? ⟨b, o, none⟩ = some v :=
  (h.old (World.block_lt_of_cell? _ _ hc) hX o).trans hc
theorem Sx.cell (h : Sx B W bs gs rs os) (k i : Nat) {b : Nat} {cs : List Value} {v : Value} (hk : bs[k]? = some (b, cs)) (hi : cs[i]? = some v) : W.cell? ⟨b, i, none⟩ = some v :=
  (h.blk _ (List.mem_of_getElem? hk)).2.2.2 i v hi
theorem Sx.rb (h : Sx B W bs gs rs os) (i : Nat) {A : Option Addr} {c : Nat} {z : Int} (hi : gs[i]? = some (A, c, z)) : RB W A c z := h.bg _ (List.mem_of_getElem? hi)
/-- A step that turns none of the blocks named. -/
theorem Sx.change {Y : Nat → Prop} (h : Sx B W bs gs rs os) (k : BelX ⟨W, Y⟩ W1) (hY : ∀ b, b < W.heap.size → Y b → B.w.heap.size ≤ b ∨ B.X b)
    (hb : ∀ x ∈ bs, ¬ Y x.1) (hg : ∀ g ∈ gs, RB W1 g.1 g.2.1 g.2.2) (ho : ∀ y ∈ os, ¬ Y y.1) : Sx B W1 bs gs rs os := by
  have hk : ∀ x ∈ bs, W1.heap[x.1]? = W.heap[x.1]? := fun x hx => k.block x.1 (h.lt hx) (hb x hx)
  refine ⟨h.bx.change k hY, fun x hx => ?_, h.nd, hg, fun r hr => ?_, fun y hy => ?_, h.on⟩
  · obtain ⟨q1, ⟨o, q2, q3⟩, q4, q5⟩ := h.blk x hx
    exact ⟨q1, ⟨o, (hk x hx).trans q2, q3⟩, fun i => (World.frozen?_of_block (a := ⟨x.1, i, none⟩) (hk x hx)).trans (q4 i), fun i v hv => (World.cell?_of_block (a := ⟨x.1, i, none⟩) (hk x hx)).trans (q5 i v hv)⟩
  · obtain ⟨b, cs, cur, q1, q2, q3⟩ := h.rw r hr
    exact ⟨b, cs, cur, q1, (hk (b, cs) (List.mem_of_getElem? q1)).trans q2, q3⟩
  · obtain ⟨q1, q2⟩ := h.ob y hy
    exact ⟨q1, (k.block y.1 (Array.getElem?_eq_some_iff.1 q2).1 (ho y hy)).trans q2⟩
theorem Sx.call (h : Sx B W bs gs rs os) (hb : Below W.heap.size W W1) : Sx B W1 bs gs rs os :=
  h.change (Y := fun _ => False) (BelX.of hb) (fun _ _ q => q.elim) (fun _ _ q => q) (fun g hg => RB.below (h.bg g hg) hb) (fun _ _ q => q)
theorem Mk.change {Y : Nat → Prop} (h : Mk B W ds) (k : BelX ⟨W, Y⟩ W1) (hY : ∀ D ∈ ds, ¬ Y D) : Mk B W1 ds :=
  ⟨h.1, fun D hD => ⟨(h.2 D hD).1, (k.block D (Array.getElem?_eq_some_iff.1 (h.2 D hD).2).1 (hY D hD)).trans (h.2 D hD).2⟩⟩
theorem Mk.call (h : Mk B W ds) (hb : Below W.heap.size W W1) : Mk B W1 ds := h.change (Y := fun _ => False) (BelX.of hb) (fun _ _ q => q)
theorem Mk.not_block (h : Mk B W ds) (hS : Sx B W bs gs rs os) {D : Nat} (hD : D ∈ ds) {x : Nat × List Value} (hx : x ∈ bs) : x.1 ≠ D := by
  intro e
  obtain ⟨_, ⟨o, ho, hc⟩, _⟩ := hS.blk x hx
  rw [e, (h.2 D hD).2] at ho
  obtain rfl := Option.some.inj ho
  cases hc
theorem Mk.not_loop (h : Mk B W ds) (hS : Sx B W bs gs rs os) {D : Nat} (hD : D ∈ ds) {y : Nat × Loop} (hy : y ∈ os) : y.1 ≠ D := by
  intro e
  have := (hS.ob y hy).2
  rw [e, (h.2 D hD).2] at this
  cases this
theorem Sx.not_loop (hS : Sx B W bs gs rs os) {x : Nat × List Value} (hx : x ∈ bs) {y : Nat × Loop} (hy : y ∈ os) : x.1 ≠ y.1 := by
  intro e
  obtain ⟨_, ⟨o, ho, hc⟩, _⟩ := hS.blk x hx
  rw [e, (hS.ob y hy).2] at ho
  obtain rfl := Option.some.inj ho
  cases hc
theorem Sx.big (h : Sx B W bs gs rs os) {A : Option Addr} {c : Nat} {z : Int} (hr : RB W A c z) : Sx B W bs (gs ++ [(A, c, z)]) rs os :=
  ⟨h.bx, h.blk, h.nd, fun g hg => by
    rcases List.mem_append.1 hg with hg | hg
    · exact h.bg g hg
    · rw [List.mem_singleton.1 hg]; exact hr, h.rw, h.ob, h.on⟩
theorem getElem?_of_append {α : Type} {l t : List α} {i : Nat} {x : α} (h : l[i]? = some x) : (l ++ t)[i]? = some x := by
  rw [List.getElem?_append_left (List.getElem?_eq_some_iff.1 h).1]; exact h
theorem getElem?_end {α : Type} (l : List α) (x : α) : (l ++ [x])[l.length]? = some x := by
  rw [List.getElem?_append_right (Nat.le_refl _), Nat.sub_self]; rfl
/-- A new block. -/
theorem Sx.addBlock (h : Sx B W bs gs rs os) {b : Nat} {cs : List Value} (hb : B.w.heap.size ≤ b ∨ B.X b) (ho : ∃ o : Obj, W.heap[b]? = some o ∧ o.isCells = true) (hf : ∀ i, W.frozen? ⟨b, i, none⟩ = false)
    (hc : ∀ i v, cs[i]? = some v → W.cell? ⟨b, i, none⟩ = some v) (hn : ∀ x ∈ bs, x.1 ≠ b) : Sx B W (bs ++ [(b, cs)]) gs rs os := by
  refine ⟨h.bx, fun x hx => ?_, ?_, h.bg, fun r hr => ?_, h.ob, h.on⟩
  · rcases List.mem_append.1 hx with hx | hx
    · exact h.blk x hx
    · rw [List.mem_singleton.1 hx]; exact ⟨hb, ho, hf, hc⟩
  · rw [List.map_append, List.map_cons, List.map_nil]
    refine (List.perm_append_singleton _ _).nodup_iff.2 (List.nodup_cons.2 ⟨fun hm => ?_, h.nd⟩)
    obtain ⟨x, hx, e⟩ := List.mem_map.1 hm
    exact hn x hx e
  · obtain ⟨b', cs', cur, q1, q⟩ := h.rw r hr
    exact ⟨b', cs', cur, getElem?_of_append q1, q⟩
theorem Sx.addRow (h : Sx B W bs gs rs os) {k b : Nat} {cs : List Value} {cur : Array Value} {e : TypeId} {n : Nat} (hk : bs[k]? = some (b, cs)) (hc : W.heap[b]? = some (.cells cur e (0, 0))) (hn : cur.size = n) : Sx B W bs gs (rs ++ [(k, e, n)]) os :=
  ⟨h.bx, h.blk, h.nd, h.bg, fun r hr => by
    rcases List.mem_append.1 hr with hr | hr
    · exact h.rw r hr
    · rw [List.mem_singleton.1 hr]; exact ⟨b, cs, cur, hk, hc, hn⟩, h.ob, h.on⟩
theorem frozen_cells {W : World} {b : Nat} {cur : Array Value} {e : TypeId} (h : W.heap[b]? = some (.cells cur e (0, 0))) (i : Nat) : W.frozen? ⟨b, i, none⟩ = false := by
  unfold World.frozen?; simp only [h]; simp
theorem cell_cells {W : World} {b : Nat} {cur : Array Value} {e : TypeId} {z : Nat × Nat} (h : W.heap[b]? = some (.cells cur e z)) (i : Nat) : W.cell? ⟨b, i, none⟩ = cur[i]? := by
  unfold World.cell?; simp [h]
theorem Sx.lay (h : Sx B W bs gs rs os) (vs : List Value) (t : TypeId) : Sx B (W.alloc (.cells vs.toArray t)) (bs ++ [(W.heap.size, vs)]) gs (rs ++ [(bs.length, t, vs.length)]) os := by
  have hb : Below W.heap.size W (W.alloc (.cells vs.toArray t)) := (Below.refl _ _).alloc (Nat.le_refl _) _
  have hnew : (W.alloc (.cells vs.toArray t)).heap[W.heap.size]? = some (.cells vs.toArray t (0, 0)) := World.alloc_heap_new _ _
  have k := h.call hb
  refine Sx.addRow (k.addBlock (b := W.heap.size) (cs := vs) (Or.inl h.bx.size) ⟨_, hnew, rfl⟩ (frozen_cells hnew) (fun i v hv => ?_) (fun x hx e => ?_)) (getElem?_end _ _) hnew (by simp)
  · rw [cell_cells hnew]; simpa using hv
  · have := h.lt hx; omega
theorem Sx.drew (h : Sx B W bs gs rs os) : Sx B W.drew bs gs rs os := h.call (bl_drew (Below.refl _ _))
/-- Fewer words. -/
theorem Sx.less {t : Blks} {gs' : Bigs} {rs' : Rws} {os' : Lps} (h : Sx B W (bs ++ t) gs rs os) (hg : gs' ⊆ gs) (hr : ∀ r ∈ rs', r ∈ rs ∧ r.1 < bs.length) (ho : os'.Sublist os) : Sx B W bs gs' rs' os' :=
  ⟨h.bx, fun x hx => h.blk x (List.mem_append_left _ hx), by have := h.nd; rw [List.map_append] at this; exact (List.nodup_append.1 this).1, fun g hx => h.bg g (hg hx), fun r hx => by
    obtain ⟨b, cs, cur, q1, q⟩ := h.rw r (hr r hx).1
    rw [List.getElem?_append_left (hr r hx).2] at q1
    exact ⟨b, cs, cur, q1, q⟩, fun y hy => h.ob y (ho.subset hy), (ho.map _).nodup h.on⟩
/-- What turns one block of the list: its cells anew; its rows as they are. -/
theorem Sx.turn (h : Sx B W bs gs rs os) {k b : Nat} {cs cs' : List Value} (hk : bs[k]? = some (b, cs)) (hY : BelX ⟨W, fun i => i = b⟩ W1)
    (ho : ∀ cur e z, W.heap[b]? = some (.cells cur e z) → ∃ cur', W1.heap[b]? = some (.cells cur' e z) ∧ cur'.size = cur.size)
    (hc : ∀ i v, cs'[i]? = some v → W1.cell? ⟨b, i, none⟩ = some v) (hg : ∀ g ∈ gs, RB W1 g.1 g.2.1 g.2.2) : Sx B W1 (bs.set k (b, cs')) gs rs os := by
  obtain ⟨k1, ⟨o, k2, k2c⟩, k3, k4⟩ := h.blk _ (List.mem_of_getElem? hk)
  have hkl : k < bs.length := (List.getElem?_eq_some_iff.1 hk).1
  dsimp only at k1 k2 k3 k4
  obtain ⟨cur, e, z, rfl⟩ : ∃ cur e z, o = .cells cur e z := by cases o <;> first | exact ⟨_, _, _, rfl⟩ | cases k2c
  obtain ⟨cur', hcur', hsz⟩ := ho cur e z k2
  have hne : ∀ j x, bs[j]? = some x → j ≠ k → x.1 ≠ b := by
    intro j x hj hjk e
    have h1 : (bs.map (·.1))[j]? = some b := by rw [List.getElem?_map, hj, ← e]; rfl
    have h2 : (bs.map (·.1))[k]? = some b := by rw [List.getElem?_map, hk]; rfl
    have hjl : j < (bs.map (·.1)).length := (List.getElem?_eq_some_iff.1 h1).1
    exact hjk ((List.getElem?_inj hjl h.nd).1 (h1.trans h2.symm))
  have hlt : b < W.heap.size := (Array.getElem?_eq_some_iff.1 k2).1
  refine ⟨h.bx.change hY (fun i _ e => by rw [e]; exact k1), fun x hx => ?_, ?_, hg, fun r hr => ?_, fun y hy => ?_, h.on⟩
  · obtain ⟨j, hj⟩ := List.mem_iff_getElem?.1 hx
    rw [List.getElem?_set] at hj
    by_cases e1 : k = j
    · subst e1
      rw [if_pos rfl, if_pos hkl] at hj
      obtain rfl := Option.some.inj hj
      refine ⟨k1, ⟨_, hcur', rfl⟩, fun m => ?_, hc⟩
      have := k3 m
      unfold World.frozen? at this ⊢
      dsimp only at this ⊢
      rw [k2] at this
      rw [hcur']
      simpa using this
    · rw [if_neg e1] at hj
      obtain ⟨q1, ⟨o', q2, q2c⟩, q3, q4⟩ := h.blk x (List.mem_of_getElem? hj)
      have hx' := hne j x hj (Ne.symm e1)
      have hb := hY.block x.1 (Array.getElem?_eq_some_iff.1 q2).1 hx'
      exact ⟨q1, ⟨o', hb.trans q2, q2c⟩, fun m => (World.frozen?_of_block (a := ⟨x.1, m, none⟩) hb).trans (q3 m), fun m v hv => (World.cell?_of_block (a := ⟨x.1, m, none⟩) hb).trans (q4 m v hv)⟩
  · rw [List.map_set]
    have e1 : (bs.map (·.1))[k]? = some b := by rw [List.getElem?_map, hk]; rfl
    have : (bs.map (·.1)).set k b = bs.map (·.1) := by
      apply List.ext_getElem?
      intro m
      rw [List.getElem?_set]
      by_cases em : k = m
      · subst em; rw [if_pos rfl, e1, if_pos (by simpa using hkl)]
      · rw [if_neg em]
    simp only [this]
    exact h.nd
  · obtain ⟨b', csr, curr, q1, q2, q3⟩ := h.rw r hr
    by_cases e1 : k = r.1
    · rw [← e1, hk] at q1
      obtain ⟨rfl, rfl⟩ := Prod.mk.inj (Option.some.inj q1)
      rw [k2] at q2
      obtain ⟨rfl, rfl, rfl⟩ := Obj.cells.inj (Option.some.inj q2)
      exact ⟨b, cs', cur', by rw [← e1, List.getElem?_set, if_pos rfl, if_pos hkl], hcur', hsz.trans q3⟩
    · have hb := hY.block b' (Array.getElem?_eq_some_iff.1 q2).1 (hne r.1 _ q1 (Ne.symm e1))
      exact ⟨b', csr, curr, by rw [List.getElem?_set, if_neg e1]; exact q1, hb.trans q2, q3⟩
  · obtain ⟨q1, q2⟩ := h.ob y hy
    exact ⟨q1, (hY.block y.1 (Array.getElem?_eq_some_iff.1 q2).1 (fun e1 => h.not_loop (List.mem_of_getElem? hk) hy e1.symm)).trans q2⟩
theorem belX_set (W : World) (b i : Nat) (u : Value) : BelX ⟨W, fun k => k = b⟩ (W.setCell ⟨b, i, none⟩ u) :=
  ⟨rfl, rfl, rfl, by simp [World.setCell], fun k _ hn => Below.heap_setCell _ _ _ _ hn⟩
theorem setCell_obj {W : World} {b i : Nat} {u : Value} {cur : Array Value} {e : TypeId} {z : Nat × Nat} (h : W.heap[b]? = some (.cells cur e z)) : (W.setCell ⟨b, i, none⟩ u).heap[b]? = some (.cells (cur.setIfInBounds i u) e z) := by
  obtain ⟨hl, he⟩ := Array.getElem?_eq_some_iff.1 h
  show (W.heap.modify b _)[b]? = _
  rw [Array.getElem?_eq_getElem (by rw [Array.size_modify]; exact hl), Array.getElem_modify_self, he]
  rfl
/-- The big numbers' digits lie apart from a block whose first cell is no digit. -/
theorem RB.keep {Y : Nat → Prop} {A : Option Addr} {c : Nat} {z : Int} (hr : RB W A c z) (hY : BelX ⟨W, Y⟩ W1) (hd : ∀ b v0, Y b → W.cell? ⟨b, 0, none⟩ = some v0 → digitless v0 = true) : RB W1 A c z := by
  refine ⟨hr.1, hr.2.1, hr.2.2.1, fun hn => ?_⟩
  obtain ⟨b', e', hlt, hcs⟩ := hr.2.2.2 hn
  have hbb : ¬ Y b' := fun hy => by
    have h1 := hd b' _ hy (hcs 0 hn)
    simp [digitless] at h1
  exact ⟨b', e', Nat.lt_of_lt_of_le hlt hY.size, fun j hj => (World.cell?_of_block (a := ⟨b', j, none⟩) (hY.block b' hlt hbb)).trans (hcs j hj)⟩
/-- A store. -/
theorem Sx.set (h : Sx B W bs gs rs os) (k i : Nat) {b : Nat} {v0 : Value} {vs : List Value} (hk : bs[k]? = some (b, v0 :: vs)) (hi : i < (v0 :: vs).length) (hd : gs = [] ∨ digitless v0 = true) (u : Value) :
    Sx B (W.setCell ⟨b, i, none⟩ u) (bs.set k (b, (v0 :: vs).set i u)) gs rs os := by
  have k4 := (h.blk _ (List.mem_of_getElem? hk)).2.2.2
  obtain ⟨vi, hvi⟩ : ∃ vi, (v0 :: vs)[i]? = some vi := ⟨_, List.getElem?_eq_getElem hi⟩
  have hci := k4 i vi hvi
  refine h.turn hk (belX_set W b i u) (fun cur e z q => ⟨_, setCell_obj q, by simp⟩) (fun m v hv => ?_) (fun g hg => ?_)
  · simp only [List.getElem?_set] at hv
    by_cases e2 : i = m
    · subst e2
      rw [if_pos rfl, if_pos hi] at hv
      rw [World.cell?_setCell_same _ _ _ hci, hv]
    · rw [if_neg e2] at hv
      rw [World.cell?_setCell_other _ _ _ _ (fun q => e2 (congrArg Addr.off q))]
      exact k4 m v hv
  · have hd' : digitless v0 = true := hd.resolve_left (by rintro rfl; cases hg)
    exact RB.keep (h.bg g hg) (belX_set W b i u) (fun b' v1 e hc => by subst e; rw [k4 0 v0 rfl] at hc; rw [← Option.some.inj hc]; exact hd')
theorem Mk.turn (h : Mk B W ds) (hS : Sx B W bs gs rs os) {k b : Nat} {cs : List Value} (hk : bs[k]? = some (b, cs)) (hY : BelX ⟨W, fun i => i = b⟩ W1) : Mk B W1 ds :=
  h.change hY fun _ hD e => h.not_block hS hD (List.mem_of_getElem? hk) e.symm
theorem belX_putObj (W : World) (l : Nat) (o : Obj) : BelX ⟨W, fun k => k = l⟩ (W.putObj l o) :=
  ⟨rfl, rfl, rfl, by simp, fun k _ hn => World.putObj_heap_other hn⟩
/-- A loop's record turns. -/
theorem Sx.loop (h : Sx B W bs gs rs os) {j l : Nat} {r : Loop} (hj : os[j]? = some (l, r)) (r' : Loop) : Sx B (W.putObj l (.loop r')) bs gs rs (os.set j (l, r')) := by
  have hm := List.mem_of_getElem? hj
  obtain ⟨q1, q2⟩ := h.ob _ hm
  have hjl : j < os.length := (List.getElem?_eq_some_iff.1 hj).1
  have hlt : l < W.heap.size := (Array.getElem?_eq_some_iff.1 q2).1
  have hY := belX_putObj W l (.loop r')
  have hb : ∀ x ∈ bs, (W.putObj l (.loop r')).heap[x.1]? = W.heap[x.1]? := fun x hx => World.putObj_heap_other (h.not_loop hx hm)
  refine ⟨h.bx.change hY (fun i _ e => by rw [e]; exact q1), fun x hx => ?_, h.nd, fun g hg => ?_, fun r hr => ?_, fun y hy => ?_, ?_⟩
  · obtain ⟨p1, ⟨o, p2, p3⟩, p4, p5⟩ := h.blk x hx
    exact ⟨p1, ⟨o, (hb x hx).trans p2, p3⟩, fun i => (World.frozen?_of_block (a := ⟨x.1, i, none⟩) (hb x hx)).trans (p4 i), fun i v hv => (World.cell?_of_block (a := ⟨x.1, i, none⟩) (hb x hx)).trans (p5 i v hv)⟩
  · refine RB.keep (h.bg g hg) hY (fun b v0 e hc => ?_)
    subst e
    unfold World.cell? at hc
    dsimp only at hc
    rw [q2] at hc
    cases hc
  · obtain ⟨b, cs, cur, p1, p2, p3⟩ := h.rw r hr
    exact ⟨b, cs, cur, p1, (hb (b, cs) (List.mem_of_getElem? p1)).trans p2, p3⟩
  · obtain ⟨m, hm'⟩ := List.mem_iff_getElem?.1 hy
    rw [List.getElem?_set] at hm'
    by_cases e1 : j = m
    · subst e1
      rw [if_pos rfl, if_pos hjl] at hm'
      obtain rfl := Option.some.inj hm'
      exact ⟨q1, World.putObj_heap_same hlt⟩
    · rw [if_neg e1] at hm'
      obtain ⟨p1, p2⟩ := h.ob y (List.mem_of_getElem? hm')
      have hne : y.1 ≠ l := by
        intro e
        have h1 : (os.map (·.1))[m]? = some l := by rw [List.getElem?_map, hm', ← e]; rfl
        have h2 : (os.map (·.1))[j]? = some l := by rw [List.getElem?_map, hj]; rfl
        exact e1 ((List.getElem?_inj (List.getElem?_eq_some_iff.1 h2).1 h.on).1 (h2.trans h1.symm))
      exact ⟨p1, (World.putObj_heap_other hne).trans p2⟩
  · have e1 : (os.map (·.1))[j]? = some l := by rw [List.getElem?_map, hj]; rfl
    rw [List.map_set]
    have : (os.map (·.1)).set j l = os.map (·.1) := by
      apply List.ext_getElem?
      intro m
      rw [List.getElem?_set]
      by_cases em : j = m
      · subst em; rw [if_pos rfl, e1, if_pos (by simpa using hjl)]
      · rw [if_neg em]
    simp only [this]
    exact h.on
theorem Mk.loop (h : Mk B W ds) (hS : Sx B W bs gs rs os) {j l : Nat} {r : Loop} (hj : os[j]? = some (l, r)) (o : Obj) : Mk B (W.putObj l o) ds :=
  h.change (belX_putObj W l o) fun _ hD e => h.not_loop hS hD (List.mem_of_getElem? hj) e.symm
end
end Go.Proofs.YtnmacidlgadmgaaDoor
