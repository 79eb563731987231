/- The state of a call under way: below the old heap nothing has turned; the call's own blocks, with what they hold; big numbers in memory. -/
import Derived.Test.YtnmacidlgadmgaaDoorRs
namespace Go.Proofs.YtnmacidlgadmgaaDoor
open Go.RowKit
attribute [local go_sem] nlt2 nlt3 nlt4 nlt5 nlt6 nlt7 nlt8 nlt9 nlt10 nlt11 nlt12

abbrev Blks := List (Nat × List Value)
abbrev Bigs := List (Option Addr × Nat × Int)
def St (w0 W : World) (bs : Blks) (gs : Bigs) : Prop :=
  Below w0.heap.size w0 W ∧ (∀ x ∈ bs, w0.heap.size ≤ x.1 ∧ x.1 < W.heap.size ∧ (∀ i, W.frozen? ⟨x.1, i, none⟩ = false) ∧ ∀ i v, x.2[i]? = some v → W.cell? ⟨x.1, i, none⟩ = some v) ∧
    (bs.map (·.1)).Nodup ∧ ∀ g ∈ gs, RB W g.1 g.2.1 g.2.2
def cellsAt (W : World) (b : Nat) : Nat → List Value → Prop
  | _, [] => True
  | i, v :: vs => W.cell? ⟨b, i, none⟩ = some v ∧ cellsAt W b (i + 1) vs
def apart (b : Nat) : Blks → Prop
  | [] => True
  | y :: r => b ≠ y.1 ∧ y.1 ≠ b ∧ apart b r
def facts (W : World) : Blks → Prop
  | [] => True
  | x :: r => x.1 < W.heap.size ∧ apart x.1 r ∧ (∀ i, W.frozen? ⟨x.1, i, none⟩ = false) ∧ cellsAt W x.1 0 x.2 ∧ facts W r

theorem St.refl (w : World) : St w w [] [] := ⟨Below.refl _ _, fun _ h => (by cases h), List.nodup_nil, fun _ h => (by cases h)⟩
theorem St.bl {w0 W : World} {bs : Blks} {gs : Bigs} (h : St w0 W bs gs) : Below w0.heap.size w0 W := h.1
theorem cellsAt_of {W : World} {b : Nat} : ∀ {vs : List Value} {i : Nat}, (∀ j v, vs[j]? = some v → W.cell? ⟨b, i + j, none⟩ = some v) → cellsAt W b i vs
  | [], _, _ => trivial
  | v :: vs, i, h => ⟨h 0 v rfl, cellsAt_of fun j u hu => by have := h (j + 1) u (by simpa using hu); rwa [show i + (j + 1) = i + 1 + j from by omega] at this⟩
theorem apart_of {b : Nat} : ∀ {bs : Blks}, (∀ y ∈ bs, b ≠ y.1) → apart b bs
  | [], _ => trivial
  | y :: r, h => ⟨h y (by simp), fun e => h y (by simp) e.symm, apart_of fun z hz => h z (by simp [hz])⟩
theorem St.facts {w0 W : World} {bs : Blks} {gs : Bigs} (h : St w0 W bs gs) : facts W bs := by
  have hb := h.2.1
  have hn := h.2.2.1
  clear h
  induction bs with
  | nil => trivial
  | cons x r ih =>
    obtain ⟨_, k2, k3, k4⟩ := hb x (by simp)
    have hn' := List.nodup_cons.1 hn
    exact ⟨k2, apart_of fun y hy e => hn'.1 (by show x.1 ∈ _; rw [e]; exact List.mem_map_of_mem hy), k3, cellsAt_of fun j v hv => by rw [Nat.zero_add]; exact k4 j v hv, ih (fun y hy => hb y (by simp [hy])) hn'.2⟩
theorem St.rb {w0 W : World} {bs : Blks} {gs : Bigs} (h : St w0 W bs gs) (i : Nat) {A : Option Addr} {c : Nat} {z : Int} (hi : gs[i]? = some (A, c, z)) : RB W A c z :=
  h.2.2.2 _ (List.mem_of_getElem? hi)
theorem St.call {w0 W W1 : World} {bs : Blks} {gs : Bigs} (h : St w0 W bs gs) (hb : Below W.heap.size W W1) : St w0 W1 bs gs :=
  ⟨h.1.trans (hb.mono h.1.size), fun x hx => by
    obtain ⟨k1, k2, k3, k4⟩ := h.2.1 x hx
    exact ⟨k1, Nat.lt_of_lt_of_le k2 hb.size, fun i => ((bcell hb).2 _ i k2).trans (k3 i), fun i v hv => ((bcell hb).1 _ i k2).trans (k4 i v hv)⟩,
    h.2.2.1, fun g hg => RB.below (h.2.2.2 g hg) hb⟩
theorem St.big {w0 W : World} {bs : Blks} {gs : Bigs} (h : St w0 W bs gs) {A : Option Addr} {c : Nat} {z : Int} (hr : RB W A c z) : St w0 W bs ((A, c, z) :: gs) :=
  ⟨h.1, h.2.1, h.2.2.1, fun g hg => by rcases List.mem_cons.1 hg with rfl | hg; exact hr; exact h.2.2.2 g hg⟩
/-- A call's step, and one that hands a big number back: 'apply' at any goal. -/
theorem St.step {w0 W W1 : World} {bs : Blks} {gs : Bigs} {p : Prop} (h : St w0 W bs gs) (hb : Below W.heap.size W W1) (k : Asd (St w0 W1 bs gs) → p) : p := k ⟨h.call hb⟩
theorem St.stepB {w0 W W1 : World} {bs : Blks} {gs : Bigs} {p : Prop} {A : Option Addr} {c : Nat} {z : Int} (h : St w0 W bs gs) (hb : Below W.heap.size W W1) (hr : RB W1 A c z) (k : Asd (St w0 W1 bs ((A, c, z) :: gs)) → p) : p := k ⟨(h.call hb).big hr⟩
/-- The state at the world that stands, without a call. -/
theorem St.here {w0 W : World} {bs : Blks} {gs : Bigs} {p : Prop} (h : St w0 W bs gs) (k : Asd (St w0 W bs gs) → p) : p := k ⟨h⟩
theorem St.lay {w0 W : World} {bs : Blks} {gs : Bigs} (h : St w0 W bs gs) (vs : List Value) (t : TypeId) : St w0 (W.alloc (.cells vs.toArray t)) ((W.heap.size, vs) :: bs) gs := by
  have hb : Below W.heap.size W (W.alloc (.cells vs.toArray t)) := (Below.refl _ _).alloc (Nat.le_refl _) _
  have k := h.call hb
  refine ⟨k.1, fun x hx => ?_, ?_, k.2.2.2⟩
  · rcases List.mem_cons.1 hx with rfl | hx
    · exact ⟨h.1.size, by simp, fun i => by simp [go_sem], fun i v hv => by rw [cell_new _ _ _ _ _ rfl]; simpa using hv⟩
    · exact k.2.1 x hx
  · refine List.nodup_cons.2 ⟨fun hm => ?_, k.2.2.1⟩
    obtain ⟨x, hx, e⟩ := List.mem_map.1 hm
    have := (h.2.1 x hx).2.1
    simp only at e
    omega
theorem sz_alloc (W : World) (o : Obj) : (W.alloc o).heap.size = W.heap.size + 1 := by simp
theorem sz_drew (W : World) : W.drew.heap.size = W.heap.size := rfl
theorem sz_drewN (W : World) (n : Nat) : (W.drewN n).heap.size = W.heap.size := rfl
theorem sz_set (W : World) (a : Addr) (u : Value) : (W.setCell a u).heap.size = W.heap.size := by simp [World.setCell]
theorem St.drew {w0 W : World} {bs : Blks} {gs : Bigs} (h : St w0 W bs gs) : St w0 W.drew bs gs := h.call (bl_drew (Below.refl _ _))
theorem St.drewN {w0 W : World} {bs : Blks} {gs : Bigs} (h : St w0 W bs gs) (n : Nat) : St w0 (W.drewN n) bs gs := h.call (bl_drewN (Below.refl _ _) n)
/-- Fewer words. -/
theorem St.less {w0 W : World} {bs bs' : Blks} {gs gs' : Bigs} (h : St w0 W bs gs) (hb : bs'.Sublist bs) (hg : gs' ⊆ gs) : St w0 W bs' gs' :=
  ⟨h.1, fun x hx => h.2.1 x (hb.subset hx), (hb.map _).nodup h.2.2.1, fun g hx => h.2.2.2 g (hg hx)⟩
def digitless : Value → Bool
  | .int .u64 _ => false
  | _ => true
/-- A store into the k-th block of the call's own, its i-th cell. -/
theorem St.set {w0 W : World} {bs : Blks} {gs : Bigs} (h : St w0 W bs gs) (k i : Nat) {b : Nat} {v0 : Value} {vs : List Value} (hk : bs[k]? = some (b, v0 :: vs)) (hi : i < (v0 :: vs).length) (hd : gs = [] ∨ digitless v0 = true) (u : Value) :
    St w0 (W.setCell ⟨b, i, none⟩ u) (bs.set k (b, (v0 :: vs).set i u)) gs := by
  obtain ⟨k1, k2, k3, k4⟩ := h.2.1 _ (List.mem_of_getElem? hk)
  have hkl : k < bs.length := (List.getElem?_eq_some_iff.1 hk).1
  have hc0 := k4 0 v0 rfl
  obtain ⟨vi, hvi⟩ : ∃ vi, (v0 :: vs)[i]? = some vi := ⟨_, List.getElem?_eq_getElem hi⟩
  have hci := k4 i vi hvi
  have hne : ∀ j x, bs[j]? = some x → j ≠ k → x.1 ≠ b := by
    intro j x hj hjk e
    have h1 : (bs.map (·.1))[j]? = some b := by rw [List.getElem?_map, hj, ← e]; rfl
    have h2 : (bs.map (·.1))[k]? = some b := by rw [List.getElem?_map, hk]; rfl
    have hjl : j < (bs.map (·.1)).length := (List.getElem?_eq_some_iff.1 h1).1
    exact hjk ((List.getElem?_inj hjl h.2.2.1).1 (h1.trans h2.symm))
  refine ⟨bl_set h.1 k1 u, fun x hx => ?_, ?_, fun g hg => ?_⟩
  · obtain ⟨j, hj⟩ := List.mem_iff_getElem?.1 hx
    rw [List.getElem?_set] at hj
    by_cases e : k = j
    · subst e
      rw [if_pos rfl, if_pos hkl] at hj
      obtain rfl := Option.some.inj hj
      refine ⟨k1, by simpa [World.setCell] using k2, fun m => by simpa using k3 m, fun m v hv => ?_⟩
      simp only [List.getElem?_set] at hv
      by_cases e2 : i = m
      · subst e2
        rw [if_pos rfl, if_pos hi] at hv
        rw [World.cell?_setCell_same _ _ _ hci, hv]
      · rw [if_neg e2] at hv
        rw [World.cell?_setCell_other _ _ _ _ (fun q => e2 (congrArg Addr.off q))]
        exact k4 m v hv
    · rw [if_neg e] at hj
      obtain ⟨q1, q2, q3, q4⟩ := h.2.1 x (List.mem_of_getElem? hj)
      have hx' := hne j x hj (Ne.symm e)
      exact ⟨q1, by simpa [World.setCell] using q2, fun m => by simpa using q3 m, fun m v hv => (World.cell?_setCell_other _ _ _ _ (fun q => hx' (congrArg Addr.block q).symm)).trans (q4 m v hv)⟩
  · rw [List.map_set]
    have e : (bs.map (·.1))[k]? = some b := by rw [List.getElem?_map, hk]; rfl
    have : (bs.map (·.1)).set k b = bs.map (·.1) := by
      apply List.ext_getElem?
      intro m
      rw [List.getElem?_set]
      by_cases em : k = m
      · subst em; rw [if_pos rfl, e, if_pos (by simpa using hkl)]
      · rw [if_neg em]
    simp only [this]
    exact h.2.2.1
  · have hr := h.2.2.2 g hg
    have hd' : digitless v0 = true := hd.resolve_left (by rintro rfl; cases hg)
    refine ⟨hr.1, hr.2.1, hr.2.2.1, fun hn => ?_⟩
    obtain ⟨b', e', hlt, hcs⟩ := hr.2.2.2 hn
    have hbb : b' ≠ b := by
      rintro rfl
      have := hcs 0 hn
      rw [hc0] at this
      obtain rfl := Option.some.inj this
      simp [digitless] at hd'
    exact ⟨b', e', by simpa [World.setCell] using hlt, fun j hj => Eq.trans (World.cell?_setCell_other _ _ _ _ (fun q => hbb (congrArg Addr.block q).symm)) (hcs j hj)⟩
end Go.Proofs.YtnmacidlgadmgaaDoor
