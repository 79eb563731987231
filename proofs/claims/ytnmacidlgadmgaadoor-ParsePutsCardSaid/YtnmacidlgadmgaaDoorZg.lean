/- The second engine, seventh part: small words for the conditions' proofs. -/
import Derived.Test.YtnmacidlgadmgaaDoorZf
namespace Go.Proofs.YtnmacidlgadmgaaDoor
open Go.RowKit
/-- Letters of a state that a loop comes to again. -/
structure Lt where
  k : Nat
  x : Nat → Int
  u : Nat → Value
  a : Nat → Option Addr × Nat
  r : Nat → Nat
  l : Nat → List Value
/-- An operation of a text: the n-th region's i-th. -/
def regions : Code → List (Array Oper)
  | .region _ ops _ => [ops]
  | .seq a b => regions a ++ regions b
  | .cond _ a b => regions a ++ regions b
  | .block _ a => regions a
  | .scope a => regions a
  | .loop a => regions a
  | .rangeFunc _ _ a b => regions a ++ regions b
  | _ => []
def opAt (c : Code) (n i : Nat) : Oper := ((regions c)[n]?.bind (·[i]?)).getD default
theorem ExX.nil {B : Base} : ExX B [] := fun x hx => by cases hx
theorem ExX.cons {B : Base} {b : Nat} {cs : List Value} {es : Blks} (h : b < B.w.heap.size ∧ ¬ B.X b ∧ ∀ i v, cs[i]? = some v → B.w.cell? ⟨b, i, none⟩ = some v) (k : ExX B es) : ExX B ((b, cs) :: es) := by
  intro x hx
  rcases List.mem_cons.1 hx with rfl | hx
  · exact h
  · exact k x hx
theorem exX {w : World} {X : Nat → Prop} {b : Nat} {c : Value} {cs : List Value} (hn : ¬ X b) (h : cellsAt w b 0 (c :: cs)) : b < (⟨w, X⟩ : Base).w.heap.size ∧ ¬ (⟨w, X⟩ : Base).X b ∧ ∀ i v, (c :: cs)[i]? = some v → (⟨w, X⟩ : Base).w.cell? ⟨b, i, none⟩ = some v :=
  ⟨World.block_lt_of_cell? w ⟨b, 0, none⟩ h.1, hn, (exOf h).2⟩
section
variable {P : Program} {B : Base} {bs : Blks} {gs : Bigs} {rs : Rws} {os : Lps} {g : FuncId} {args : Array Value} {v : Value}
theorem CallVX.of (h : ∀ W, Sx B W bs gs rs os → Calls P g args W fun e w' => e = .returned v ∧ W = w') : CallVX P B bs gs rs os g args v :=
  fun W hS => (h W hS).mono fun _ _ ⟨he, hw⟩ => ⟨he, hw ▸ Below.refl _ _⟩
theorem CallVX.be (h : ∀ W, Sx B W bs gs rs os → Calls P g args W fun e w' => e = .returned v ∧ Below W.heap.size W w') : CallVX P B bs gs rs os g args v := h
/-- What a callee is told of the blocks handed to it. -/
theorem Sx.hand {W : World} (h : Sx B W bs [] rs os) {ks : List Nat} {bs0 : Blks} {rs0 : Rws} {os0 : Lps} (hks : bs0 = ks.filterMap fun i => bs[i]?) (hk : ks.all (fun k => decide (k < bs.length)) = true) (hnd : ks.Nodup)
    (hr : ∀ r ∈ rs0, ∃ k, ks[r.1]? = some k ∧ (k, r.2) ∈ rs) (hos : os0.Sublist os) : Sx (BaseOf W bs0 os0) W bs0 [] rs0 os0 := by
  subst hks
  have hlt : ∀ k ∈ ks, k < bs.length := fun k hk' => by simpa using List.all_eq_true.1 hk k hk'
  have hp := pick_at (l := bs) (idx := ks) hlt
  refine ⟨BelX.refl, fun x hx => ?_, ?_, fun _ hg => (by cases hg), fun r hr' => ?_, fun y hy => ⟨Or.inr (Or.inr ⟨y, hy, rfl⟩), (h.ob y (hos.subset hy)).2⟩, (hos.map _).nodup h.on⟩
  · obtain ⟨j, _, hj⟩ := List.mem_filterMap.1 hx
    obtain ⟨_, q⟩ := h.blk x (List.mem_of_getElem? hj)
    exact ⟨Or.inr (Or.inl ⟨x, hx, rfl⟩), q⟩
  · rw [List.Nodup, List.pairwise_iff_getElem]
    intro i j hi hj hij e
    rw [List.length_map] at hi hj
    simp only [List.getElem_map] at e
    have hi' : (pick ks bs)[i]? = some (pick ks bs)[i] := List.getElem?_eq_getElem hi
    have hj' : (pick ks bs)[j]? = some (pick ks bs)[j] := List.getElem?_eq_getElem hj
    rw [hp] at hi' hj'
    obtain ⟨a, ha, hxa⟩ := Option.bind_eq_some_iff.1 hi'
    obtain ⟨b, hb, hxb⟩ := Option.bind_eq_some_iff.1 hj'
    have h1 : (bs.map (·.1))[a]? = some ((pick ks bs)[i]).1 := by rw [List.getElem?_map, hxa]; rfl
    have h2 : (bs.map (·.1))[b]? = some ((pick ks bs)[i]).1 := by rw [List.getElem?_map, hxb]; exact congrArg some e.symm
    have hab := (List.getElem?_inj (List.getElem?_eq_some_iff.1 h1).1 h.nd).1 (h1.trans h2.symm)
    subst hab
    have := (List.getElem?_inj (List.getElem?_eq_some_iff.1 ha).1 hnd).1 (ha.trans hb.symm)
    omega
  · obtain ⟨k, hk', hm⟩ := hr r hr'
    obtain ⟨b, cs, cur, q1, q2, q3⟩ := h.rw _ hm
    refine ⟨b, cs, cur, ?_, q2, q3⟩
    have := hp r.1
    rw [hk'] at this
    exact this.trans q1
/-- A call that writes blocks handed to it, or makes some: its outcome in the caller's lists. -/
theorem CallMX.of {ks : List Nat} {bs0 : Blks} {rs0 : Rws} {os0 : Lps} {V : (Nat → Nat) → Value} {bs1 : (Nat → Nat) → Blks} {rs1 : (Nat → Nat) → Rws} {S : (Nat → Nat) → Value × Blks × Rws} (idx : List Nat)
    (h : ∀ W, Sx B W bs [] rs os → Sx (BaseOf W bs0 os0) W bs0 [] rs0 os0 → Calls P g args W fun e w' => ∃ ρ, e = .returned (V ρ) ∧ Sx (BaseOf W bs0 os0) w' (bs1 ρ) [] (rs1 ρ) os0)
    (hks : bs0 = ks.filterMap fun i => bs[i]?) (hk : ks.all (fun k => decide (k < bs.length)) = true) (hnd : ks.Nodup) (hr : ∀ r ∈ rs0, ∃ k, ks[r.1]? = some k ∧ (k, r.2) ∈ rs) (hos : os0.Sublist os)
    (hi : ∀ ρ, idx.all (fun i => decide (i < bs.length + (bs1 ρ).length) && !ks.contains i) = true) (hin : idx.Nodup)
    (hS : ∀ ρ, S ρ = (V ρ, pick idx (bs ++ bs1 ρ), rowsOf ks bs.length rs (rs1 ρ) idx)) : CallMX P B bs [] rs os g args S := by
  intro W hW
  refine (h W hW (hW.hand hks hk hnd hr hos)).mono ?_
  rintro e w' ⟨ρ, rfl, h1⟩
  have := lift_calls hW hks (fun y hy => hos.subset hy) rfl h1 (hi ρ) hin
  refine ⟨ρ, by rw [hS], fun ds hM => hM.mem hW this.1, ?_⟩
  rw [hS]; exact this.2
theorem CallYX.of {x : Sem Next} {ks : List Nat} {bs0 : Blks} {rs0 : Rws} {os0 : Lps} {V : (Nat → Nat) → Value} {bs1 : (Nat → Nat) → Blks} {rs1 : (Nat → Nat) → Rws} {S : (Nat → Nat) → Value × Blks × Rws} (idx : List Nat)
    (h : ∀ W, Sx B W bs [] rs os → Sx (BaseOf W bs0 os0) W bs0 [] rs0 os0 → ∃ l g tmps assign body, x.run P W = .ok (.round l g tmps assign body) W ∧ Rounds P l g tmps assign body W fun v w' => ∃ ρ, v = V ρ ∧ Sx (BaseOf W bs0 os0) w' (bs1 ρ) [] (rs1 ρ) os0)
    (hks : bs0 = ks.filterMap fun i => bs[i]?) (hk : ks.all (fun k => decide (k < bs.length)) = true) (hnd : ks.Nodup) (hr : ∀ r ∈ rs0, ∃ k, ks[r.1]? = some k ∧ (k, r.2) ∈ rs) (hos : os0.Sublist os)
    (hi : ∀ ρ, idx.all (fun i => decide (i < bs.length + (bs1 ρ).length) && !ks.contains i) = true) (hin : idx.Nodup)
    (hS : ∀ ρ, S ρ = (V ρ, pick idx (bs ++ bs1 ρ), rowsOf ks bs.length rs (rs1 ρ) idx)) : CallYX P B bs [] rs os x S := by
  intro W hW
  obtain ⟨l, g, tmps, assign, body, hx, hR⟩ := h W hW (hW.hand hks hk hnd hr hos)
  refine ⟨l, g, tmps, assign, body, hx, hR.mono ?_⟩
  rintro v w' ⟨ρ, rfl, h1⟩
  have := lift_calls hW hks (fun y hy => hos.subset hy) rfl h1 (hi ρ) hin
  refine ⟨ρ, by rw [hS], this.1, ?_⟩
  rw [hS]; exact this.2
end
end Go.Proofs.YtnmacidlgadmgaaDoor
