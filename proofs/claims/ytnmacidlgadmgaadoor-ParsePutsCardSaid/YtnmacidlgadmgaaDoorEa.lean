/- The walk as one reckoning, first part: what an operation does to the call's own blocks, reckoned by the kernel; a region in any order, with a store at its end. -/
/- The walk as one reckoning, second part: the machine's steps; the condition that a plan of a walk leaves; its soundness. -/
/- The walk as one reckoning, third part: what a plan leaves is enough. -/
import Derived.OrdersHeld
import Derived.Scope
import Derived.Deep.MidRow
import Derived.Test.YtnmacidlgadmgaaDoorSt
import Derived.Test.YtnmacidlgadmgaaDoorSz
namespace Go.Proofs.YtnmacidlgadmgaaDoor
open Go.RowKit

/-! ## An operation that only looks -/
/-- What an operation yields that only looks, and looks at one block alone (number b, cells cs). -/
def xrun (P : Program) (b : Nat) {α : Type} : Sem α → List Value → Prop → Option (α × Prop)
  | .pure a, _, p => some (a, p)
  | .load _ ⟨bl, o, none⟩ k, cs, p =>
    match cs[o]? with
    | some v => xrun P b (k v) cs (bl = b ∧ p)
    | none => none
  | .program k, cs, p => xrun P b (k P) cs p
  | .mark _ k, cs, p => xrun P b k cs p
  | _, _, _ => none
theorem xrun_imp {P : Program} {b : Nat} {α : Type} (e : Sem α) : ∀ {cs : List Value} {p q : Prop} {x : α}, xrun P b e cs p = some (x, q) → q → p := by
  induction e with
  | pure a => intro cs p q x h hq; simp only [xrun, Option.some.injEq, Prod.mk.injEq] at h; exact h.2 ▸ hq
  | load m a k ih =>
    intro cs p q x h hq
    obtain ⟨bl, o, sp⟩ := a
    cases sp with
    | some _ => simp [xrun] at h
    | none =>
      simp only [xrun] at h
      split at h
      · exact (ih _ h hq).2
      · cases h
  | program k ih => intro cs p q x h hq; simp only [xrun] at h; exact ih _ h hq
  | mark m k ih => intro cs p q x h hq; simp only [xrun] at h; exact ih h hq
  | _ => intro cs p q x h; simp [xrun] at h
theorem xrun_sound {P : Program} {b : Nat} {α : Type} {W : World} (e : Sem α) : ∀ {cs : List Value} {p q : Prop} {x : α}, xrun P b e cs p = some (x, q) → q →
    (∀ i v, cs[i]? = some v → W.cell? ⟨b, i, none⟩ = some v) → e.run P W = .ok x W := by
  induction e with
  | pure a => intro cs p q x h _ _; simp only [xrun, Option.some.injEq, Prod.mk.injEq] at h; rw [← h.1]; rfl
  | load m a k ih =>
    intro cs p q x h hq hc
    obtain ⟨bl, o, sp⟩ := a
    cases sp with
    | some _ => simp [xrun] at h
    | none =>
      simp only [xrun] at h
      split at h
      · rename_i v hv
        obtain rfl := (xrun_imp _ h hq).1
        simp only [Sem.run, hc o v hv]
        exact ih _ h hq hc
      · cases h
  | program k ih => intro cs p q x h hq hc; simp only [xrun] at h; simp only [Sem.run]; exact ih _ h hq hc
  | mark m k ih => intro cs p q x h hq hc; simp only [xrun] at h; simp only [Sem.run]; exact ih h hq hc
  | _ => intro cs p q x h; simp [xrun] at h

/-- What an operation yields that looks at no memory. -/
def prun (P : Program) {α : Type} : Sem α → Option α
  | .pure a => some a
  | .program k => prun P (k P)
  | .mark _ k => prun P k
  | _ => none
theorem prun_sound {P : Program} {α : Type} {W : World} (e : Sem α) : ∀ {x : α}, prun P e = some x → e.run P W = .ok x W := by
  induction e with
  | pure a => intro x h; simp only [prun, Option.some.injEq] at h; rw [← h]; rfl
  | program k ih => intro x h; simp only [prun] at h; simp only [Sem.run]; exact ih _ h
  | mark m k ih => intro x h; simp only [prun] at h; simp only [Sem.run]; exact ih h
  | _ => intro x h; simp [prun] at h
/-- A load out of block b, of a whole variable. -/
def descRows : TypeDesc → Bool
  | .struct _ | .array _ _ => true
  | _ => false
def loadW (P : Program) (b : Nat) (cs : List Value) (t : TypeId) : Value → Option (Value × Prop)
  | .pointer (some ⟨bl, off, none⟩) =>
    match (P.underlying t).map descRows, (P.info? t).map (·.size) with
    | some true, some n => if off + n ≤ cs.length then some (.agg ((cs.drop off).take n).toArray, bl = b) else none
    | some false, some _ => (cs[off]?).map (·, bl = b)
    | _, _ => none
  | _ => none
theorem loadW_sound {P : Program} {b : Nat} {cs : List Value} {t : TypeId} {a v : Value} {q : Prop} {W : World} (h : loadW P b cs t a = some (v, q)) (hq : q) (hc : ∀ i v, cs[i]? = some v → W.cell? ⟨b, i, none⟩ = some v) :
    (Instr.loadAt t a).run P W = .ok v W := by
  unfold loadW at h
  split at h
  · rename_i bl off
    show (loadVar t ⟨bl, off, none⟩).run P W = _
    split at h
    · rename_i n hd hn
      split at h
      · rename_i hle
        obtain ⟨rfl, rfl⟩ := Prod.mk.inj (Option.some.inj h)
        obtain rfl : bl = b := hq
        have hr : W.rangeAt bl off ((cs.drop off).take n) := by
          intro j u hu
          rw [List.getElem?_take] at hu
          split at hu
          · rw [List.getElem?_drop] at hu; exact hc _ _ hu
          · cases hu
        have hlen : ((cs.drop off).take n).length = n := by rw [List.length_take, List.length_drop]; omega
        cases hu : P.underlying t with
        | none => rw [hu] at hd; cases hd
        | some d =>
          rw [hu] at hd
          have h1 : descRows d = true := Option.some.inj hd
          cases d with
          | struct f => exact run_loadVar_mid W bl off t _ _ hr hu rfl (by rw [hn, hlen])
          | array m e => exact run_loadVar_mid W bl off t _ _ hr hu rfl (by rw [hn, hlen])
          | _ => cases h1
      · cases h
    · rename_i hd hn
      obtain ⟨v', hv', h2⟩ := Option.map_eq_some_iff.1 h
      obtain ⟨rfl, rfl⟩ := Prod.mk.inj h2
      obtain rfl : bl = b := hq
      have hcell := hc _ _ hv'
      cases hu : P.underlying t with
      | none => rw [hu] at hd; cases hd
      | some d =>
        rw [hu] at hd
        have h1 : descRows d = false := Option.some.inj hd
        have hagg : (isAgg t).run P W = .ok false W := by
          unfold isAgg
          rw [Sem.run_bind, run_underlying hu]
          cases d <;> first | rfl | cases h1
        unfold loadVar
        rw [Sem.run_bind, hagg]
        show (load ⟨bl, off, none⟩).run P W = _
        rw [run_load, hcell]
    · cases h
  · cases h

/-! ## A store into one of the call's own blocks -/
def vrun (P : Program) (b : Nat) (dz : Bool) {α : Type} : Sem α → List Value → Prop → Option (α × List Value × Prop)
  | .pure a, cs, p => some (a, cs, p)
  | .load _ ⟨bl, o, none⟩ k, cs, p =>
    match cs[o]? with
    | some v => vrun P b dz (k v) cs (bl = b ∧ p)
    | none => none
  | .store _ ⟨bl, o, none⟩ v k, cs, p =>
    match v.oneCell', cs with
    | true, c0 :: cr => if (dz || digitless c0) && decide (o < (c0 :: cr).length) then vrun P b dz k ((c0 :: cr).set o v) (bl = b ∧ p) else none
    | _, _ => none
  | .program k, cs, p => vrun P b dz (k P) cs p
  | .mark _ k, cs, p => vrun P b dz k cs p
  | _, _, _ => none
theorem vrun_imp {P : Program} {b : Nat} {dz : Bool} {α : Type} (e : Sem α) : ∀ {cs cs' : List Value} {p q : Prop} {x : α}, vrun P b dz e cs p = some (x, cs', q) → q → p := by
  induction e with
  | pure a => intro cs cs' p q x h hq; simp only [vrun, Option.some.injEq, Prod.mk.injEq] at h; exact h.2.2 ▸ hq
  | load m a k ih =>
    intro cs cs' p q x h hq
    obtain ⟨bl, o, sp⟩ := a
    cases sp with
    | some _ => simp [vrun] at h
    | none =>
      simp only [vrun] at h
      split at h
      · exact (ih _ h hq).2
      · cases h
  | store m a v k ih =>
    intro cs cs' p q x h hq
    obtain ⟨bl, o, sp⟩ := a
    cases sp with
    | some _ => simp [vrun] at h
    | none =>
      simp only [vrun] at h
      split at h
      · split at h
        · exact (ih h hq).2
        · cases h
      · cases h
  | program k ih => intro cs cs' p q x h hq; simp only [vrun] at h; exact ih _ h hq
  | mark m k ih => intro cs cs' p q x h hq; simp only [vrun] at h; exact ih h hq
  | _ => intro cs cs' p q x h; simp [vrun] at h
theorem oneCell_run {P : Program} {α : Type} {m : Mode} {a : Addr} {v : Value} {k : Sem α} {W : World} {c : Value} (h1 : v.oneCell' = true) (hc : W.cell? a = some c) (hf : W.frozen? a = false) :
    (Sem.store m a v k).run P W = k.run P (W.setCell a v) := by
  cases v <;> simp_all [Sem.run, Value.oneCell']
theorem vrun_sound {P : Program} {b : Nat} {dz : Bool} {α : Type} {w0 : World} {gs : Bigs} (hdz : dz = true → gs = []) (e : Sem α) : ∀ {W : World} {bs : Blks} {k : Nat} {cs cs' : List Value} {p q : Prop} {x : α},
    vrun P b dz e cs p = some (x, cs', q) → q → St w0 W bs gs → bs[k]? = some (b, cs) → ∃ W', e.run P W = .ok x W' ∧ St w0 W' (bs.set k (b, cs')) gs := by
  induction e with
  | pure a =>
    intro W bs k cs cs' p q x h _ hS hk
    simp only [vrun, Option.some.injEq, Prod.mk.injEq] at h
    obtain ⟨rfl, rfl, _⟩ := h
    refine ⟨W, rfl, ?_⟩
    obtain ⟨hkl, hv⟩ := List.getElem?_eq_some_iff.1 hk
    rw [← hv, List.set_getElem_self hkl]
    exact hS
  | load m a kk ih =>
    intro W bs k cs cs' p q x h hq hS hk
    obtain ⟨bl, o, sp⟩ := a
    cases sp with
    | some _ => simp [vrun] at h
    | none =>
      simp only [vrun] at h
      split at h
      · rename_i v hv
        obtain rfl := (vrun_imp _ h hq).1
        have hc := (hS.2.1 _ (List.mem_of_getElem? hk)).2.2.2 o v hv
        simp only [Sem.run, hc]
        exact ih _ h hq hS hk
      · cases h
  | store m a v kk ih =>
    intro W bs k cs cs' p q x h hq hS hk
    obtain ⟨bl, o, sp⟩ := a
    cases sp with
    | some _ => simp [vrun] at h
    | none =>
      simp only [vrun] at h
      split at h
      · rename_i c0 cr h1
        split at h
        · rename_i hcond
          simp only [Bool.and_eq_true, Bool.or_eq_true, decide_eq_true_eq] at hcond
          obtain rfl := (vrun_imp _ h hq).1
          obtain ⟨_, _, hfz, hcs⟩ := hS.2.1 _ (List.mem_of_getElem? hk)
          have hc := hcs o _ (List.getElem?_eq_getElem hcond.2)
          rw [oneCell_run h1 hc (hfz o)]
          have hS' := St.set hS k o hk hcond.2 (hcond.1.imp hdz id) v
          have hkl : k < bs.length := (List.getElem?_eq_some_iff.1 hk).1
          obtain ⟨W', hr, hS2⟩ := ih h hq hS' (by rw [List.getElem?_set, if_pos rfl, if_pos hkl])
          exact ⟨W', hr, by rw [List.set_set] at hS2; exact hS2⟩
        · cases h
      · cases h
  | program kk ih => intro W bs k cs cs' p q x h hq hS hk; simp only [vrun] at h; simp only [Sem.run]; exact ih _ h hq hS hk
  | mark m kk ih => intro W bs k cs cs' p q x h hq hS hk; simp only [vrun] at h; simp only [Sem.run]; exact ih h hq hS hk
  | _ => intro W bs k cs cs' p q x h; simp [vrun] at h

/-! ## An operation that makes one block -/
def nrun (P : Program) {α : Type} : Sem α → Option (List Value × TypeId × (Nat → Option α))
  | .new (.cells c t (0, 0)) k => some (c.toList, t, fun r => prun P (k r))
  | .program k => nrun P (k P)
  | .mark _ k => nrun P k
  | _ => none
theorem nrun_sound {P : Program} {α : Type} {W : World} (e : Sem α) : ∀ {cs : List Value} {t : TypeId} {kk : Nat → Option α} {x : α}, nrun P e = some (cs, t, kk) → kk W.heap.size = some x →
    e.run P W = .ok x (W.alloc (.cells cs.toArray t)) := by
  induction e with
  | new o k ih =>
    intro cs t kk x h hk
    match o, h with
    | .cells c t' (0, 0), h =>
      simp only [nrun, Option.some.injEq, Prod.mk.injEq] at h
      obtain ⟨rfl, rfl, rfl⟩ := h
      have := prun_sound (W := W.alloc (.cells c t')) _ hk
      simp only [Sem.run, Array.toArray_toList]
      exact this
  | program k ih => intro cs t kk x h hk; simp only [nrun] at h; simp only [Sem.run]; exact ih _ h hk
  | mark m k ih => intro cs t kk x h hk; simp only [nrun] at h; simp only [Sem.run]; exact ih h hk
  | _ => intro cs t kk x h; simp [nrun] at h
theorem St.end {w0 W : World} {x : Nat × List Value} {bs : Blks} {gs : Bigs} (h : St w0 W (x :: bs) gs) : St w0 W (bs ++ [x]) gs :=
  ⟨h.1, fun y hy => h.2.1 y (by simp only [List.mem_append, List.mem_singleton] at hy; simp only [List.mem_cons]; exact hy.symm), by
    have := h.2.2.1
    rw [List.map_append, List.map_cons, List.map_nil]
    exact (List.perm_append_singleton _ _).nodup_iff.2 this, h.2.2.2⟩
theorem St.layEnd {w0 W : World} {bs : Blks} {gs : Bigs} (h : St w0 W bs gs) (vs : List Value) (t : TypeId) : St w0 (W.alloc (.cells vs.toArray t)) (bs ++ [(W.heap.size, vs)]) gs := (h.lay vs t).end
theorem St.bigEnd {w0 W : World} {bs : Blks} {gs : Bigs} (h : St w0 W bs gs) {A : Option Addr} {c : Nat} {z : Int} (hr : RB W A c z) : St w0 W bs (gs ++ [(A, c, z)]) :=
  ⟨h.1, h.2.1, h.2.2.1, fun g hg => by
    rcases List.mem_append.1 hg with hg | hg
    · exact h.2.2.2 g hg
    · rw [List.mem_singleton.1 hg]; exact hr⟩

/-! ## A region in any order, the last operation free to write what was looked at -/
section
variable {P : Program} {ops : Array Oper} {Q : Exit → Act → World → Prop} {S : World → Prop}
def waits (ops : Array Oper) (y x : Nat) : Bool := ((ops[y]?).map fun o => o.after.any fun e => Region.binds .any e && e.on == x).getD false
/-- Does it look at memory? -/
def isLoad (o : Oper) : Bool :=
  match o.op with
  | .load .. => true
  | _ => false
/-- The operations from which j is reached: those that come ahead of it. -/
def back (ops : Array Oper) : List Nat → Nat → Nat
  | [], r => r
  | y :: ys, r => back ops ys (if r.testBit y then ((ops[y]?).map fun o => o.after.toList.foldl (fun s e => if Region.binds .any e then s ||| 2 ^ e.on else s) r).getD r else r)
def ahead' (ops : Array Oper) (j : Nat) : Nat := back ops (List.range (j + 1)).reverse (2 ^ j)
/-- All loads come ahead of j or wait for it. -/
def sinkOnly (ops : Array Oper) (j : Nat) : Bool :=
  let r := ahead' ops j
  (List.range ops.size).all fun x => x == j || r.testBit x || waits ops x j || !((ops[x]?).map isLoad).getD false
def closed (ops : Array Oper) (listed : Array Bool) : Prop :=
  ∀ y o, ops[y]? = some o → listed.getD y true = true → ∀ e ∈ o.after, Region.binds .any e = true → listed.getD e.on false = true
theorem unl {listed : Array Bool} {x : Nat} (h : listed.getD x true = false) (h' : listed.getD x false = true) : False := by
  rcases Nat.lt_or_ge x listed.size with k | k
  · simp [k] at h h'; rw [h] at h'; cases h'
  · simp [Array.getElem?_eq_none k] at h
theorem waits_edge {y x : Nat} (h : waits ops y x = true) : ∃ o, ops[y]? = some o ∧ ∃ e ∈ o.after, Region.binds .any e = true ∧ e.on = x := by
  unfold waits at h
  cases ho : ops[y]? with
  | none => rw [ho] at h; simp at h
  | some o =>
    rw [ho] at h
    simp only [Option.map_some, Option.getD_some] at h
    obtain ⟨e, he, h4⟩ := Array.any_eq_true'.1 h
    simp only [Bool.and_eq_true, beq_iff_eq] at h4
    exact ⟨o, rfl, e, he, h4.1, h4.2⟩
theorem back_ok {listed : Array Bool} (hD : closed ops listed) {j : Nat} (hj : j ∈ Region.ready .any ops listed) : ∀ (ys : List Nat) (r : Nat), (∀ x, r.testBit x = true → x = j ∨ listed.getD x false = true) → ∀ x, (back ops ys r).testBit x = true → x = j ∨ listed.getD x false = true := by
  obtain ⟨_, oj, hoj, hall⟩ := mem_ready.1 hj
  intro ys
  induction ys with
  | nil => intro r h; exact h
  | cons y ys ih =>
    intro r h
    refine ih _ ?_
    split
    · rename_i hy
      cases ho : ops[y]? with
      | none => exact h
      | some o =>
        simp only [Option.map_some, Option.getD_some]
        have hpre : ∀ e ∈ o.after, Region.binds .any e = true → listed.getD e.on false = true := by
          rcases h y hy with rfl | hl
          · rw [hoj] at ho
            obtain rfl := Option.some.inj ho
            exact hall
          · intro e he hb
            refine hD y o ho ?_ e he hb
            rcases Nat.lt_or_ge y listed.size with k | k
            · simp [k] at hl ⊢; exact hl
            · simp [Array.getElem?_eq_none k] at hl
        have key : ∀ (l : List Edge) (s : Nat), (∀ e ∈ l, Region.binds .any e = true → listed.getD e.on false = true) → (∀ x, s.testBit x = true → x = j ∨ listed.getD x false = true) →
            ∀ x, (l.foldl (fun s e => if Region.binds .any e then s ||| 2 ^ e.on else s) s).testBit x = true → x = j ∨ listed.getD x false = true := by
          intro l
          induction l with
          | nil => intro s _ hs; exact hs
          | cons e l ihl =>
            intro s hl hs
            simp only [List.foldl_cons]
            refine ihl _ (fun e' he' => hl e' (List.mem_cons_of_mem _ he')) ?_
            intro x hx
            split at hx
            · rename_i hb
              by_cases hex : e.on = x
              · subst hex; exact Or.inr (hl e (List.mem_cons_self ..) hb)
              · rw [Nat.testBit_or, Nat.testBit_two_pow_of_ne hex, Bool.or_false] at hx; exact hs x hx
            · exact hs x hx
        exact key o.after.toList r (fun e he => hpre e (Array.mem_toList_iff.1 he)) h
    · exact h
theorem sinkOnly_last {listed : Array Bool} (hD : closed ops listed) {j i : Nat} (hs : sinkOnly ops j = true) (hj : j ∈ Region.ready .any ops listed) (hi : i ∈ Region.ready .any ops listed) {oi : Oper} (hoi : ops[i]? = some oi) (hl : isLoad oi = true) : j = i := by
  obtain ⟨hiun, oi', hoi', hall⟩ := mem_ready.1 hi
  rw [hoi] at hoi'
  obtain rfl := Option.some.inj hoi'
  have h1 := List.all_eq_true.1 hs i (List.mem_range.2 (Array.getElem?_eq_some_iff.1 hoi).1)
  simp only [Bool.or_eq_true, beq_iff_eq, hoi, Option.map_some, Option.getD_some, hl, Bool.not_true, Bool.false_eq_true, or_false] at h1
  rcases h1 with (h1 | h1) | h1
  · exact h1.symm
  · have h2 := back_ok hD hj _ _ (fun x hx => ?_) i h1
    · rcases h2 with h2 | h2
      · exact h2.symm
      · exact (unl hiun h2).elim
    · by_cases e : j = x
      · exact Or.inl e.symm
      · rw [Nat.testBit_two_pow_of_ne e] at hx; cases hx
  · obtain ⟨o, ho, e, he, hb, hon⟩ := waits_edge h1
    rw [hoi] at ho
    obtain rfl := Option.some.inj ho
    have := hall e he hb
    rw [hon] at this
    exact (unl (mem_ready.1 hj).1 this).elim
theorem closed_set {listed : Array Bool} (hD : closed ops listed) {i : Nat} (hi : i ∈ Region.ready .any ops listed) : closed ops (listed.setIfInBounds i true) := by
  intro y o hy hl e he hb
  by_cases h : i = y
  · subst h
    obtain ⟨_, oi, hoi, hall⟩ := mem_ready.1 hi
    rw [hoi] at hy
    obtain rfl := Option.some.inj hy
    exact getD_set_true (hall e he hb)
  · rw [getD_set_ne true h] at hl
    exact getD_set_true (hD y o hy hl e he hb)
theorem closed_start : closed ops (Array.replicate ops.size false) := by
  intro y o hy hl
  have hlt : y < ops.size := (Array.getElem?_eq_some_iff.1 hy).1
  simp [hlt] at hl
def wpAnyL (P : Program) (ops : Array Oper) (Q : Exit → Act → World → Prop) : Nat → (World → Prop) → Array Bool → Act → World → Prop
  | 0, _, listed, a, w => Region.ready .any ops listed = [] ∧ Q .normal a w
  | fuel + 1, S, listed, a, w =>
    (Region.ready .any ops listed = [] → Q .normal a w) ∧
    ∀ i ∈ Region.ready .any ops listed, wpOp P ops Q i (fun a' w' => ∃ S' : World → Prop, (sinkOnly ops i = false → S' = S) ∧ S' w' ∧ wpAnyL P ops Q fuel S' (listed.setIfInBounds i true) a' w') a w
theorem wpAny_of_L : ∀ (fuel : Nat) (S : World → Prop) (listed : Array Bool) (a : Act) (w : World), wpAnyL P ops Q fuel S listed a w → wpAny P .any ops Q fuel listed a w
  | 0, _, _, _, _, h => h
  | fuel + 1, _, _, _, _, h => ⟨h.1, fun i hi => wpOp_mono (fun a' w' ⟨S', _, _, h'⟩ => wpAny_of_L fuel S' _ a' w' h') (h.2 i hi)⟩
theorem wpAnyL_first {i : Nat} {oi : Oper} {v : Value} (hi : ops[i]? = some oi) (hload : isLoad oi = true) (hsel : ∀ (j : Nat) (o : Oper) cs b, ops[j]? = some o → o.op ≠ .select cs b)
    (hQ : ∀ c a w, Q (.panic c) (a.put oi.dst v) w → Q (.panic c) a w) :
    ∀ (fuel : Nat) (listed : Array Bool) (a : Act) (w : World), closed ops listed →
      (∀ j oj, ops[j]? = some oj → j ≠ i → listed.getD j true = false → (∀ e ∈ oj.after, Region.binds .any e = true → e.on ≠ i) → oi.apart ops oj = true) →
      i ∈ Region.ready .any ops listed → YieldsIf P ops S oi v a → S w →
      wpAnyL P ops Q fuel S (listed.setIfInBounds i true) (a.put oi.dst v) w → wpAnyL P ops Q (fuel + 1) S listed a w := by
  intro fuel
  induction fuel with
  | zero =>
    intro listed a w _ _ hr hy hS H
    refine ⟨fun h => (by rw [h] at hr; cases hr), fun j hj => ?_⟩
    by_cases hji : j = i
    · subst hji; exact hy.wpOp hi hS ⟨S, fun _ => rfl, hS, H⟩
    · have := ready_mono hj hji
      rw [H.1] at this
      cases this
  | succ fuel ih =>
    intro listed a w hD hfree hr hy hS H
    refine ⟨fun h => (by rw [h] at hr; cases hr), fun j hj => ?_⟩
    by_cases hji : j = i
    · subst hji; exact hy.wpOp hi hS ⟨S, fun _ => rfl, hS, H⟩
    · have hsk : sinkOnly ops j = false := by
        cases hs : sinkOnly ops j with
        | false => rfl
        | true => exact absurd (sinkOnly_last hD hs hj hr hi hload) hji
      have h1 := H.2 j (ready_mono hj hji)
      obtain ⟨hjun, oj, hoj, hall⟩ := mem_ready.1 hj
      have hnot : ∀ e ∈ oj.after, Region.binds .any e = true → e.on ≠ i := fun e he hb heq => by
        have h1 := hall e he hb
        have h0 := (mem_ready.1 hr).1
        rw [heq] at h1
        rcases Nat.lt_or_ge i listed.size with h' | h'
        · simp [h'] at h0 h1; rw [h0] at h1; cases h1
        · simp [Array.getElem?_eq_none h'] at h1
      have h2 := wpOp_putIf hoj (hfree j oj hoj hji hjun hnot) (fun cs b => hsel i oi cs b hi) (fun cs b => hsel j oj cs b hoj) hQ hy h1
      have hfree' : ∀ k ok, ops[k]? = some ok → k ≠ i → (listed.setIfInBounds j true).getD k true = false →
          (∀ e ∈ ok.after, Region.binds .any e = true → e.on ≠ i) → oi.apart ops ok = true := fun k ok hk hki hun hno => by
        refine hfree k ok hk hki ?_ hno
        by_cases hjk : j = k
        · subst hjk; exact hjun
        · rw [getD_set_ne true hjk] at hun; exact hun
      refine wpOp_mono ?_ h2
      rintro a' w' ⟨h3, S', hS', h4, h5⟩
      obtain rfl := hS' hsk
      refine ⟨S', fun _ => rfl, h4, ih (listed.setIfInBounds j true) a' w' (closed_set hD hj) hfree' (ready_mono hr (Ne.symm hji)) h3 h4 ?_⟩
      rw [Array.setIfInBounds_comm _ _ hji]
      exact h5
theorem wpAnyL_firstP {i : Nat} {oi : Oper} {v : Value} (hi : ops[i]? = some oi) (hsel : ∀ (j : Nat) (o : Oper) cs b, ops[j]? = some o → o.op ≠ .select cs b)
    (hQ : ∀ c a w, Q (.panic c) (a.put oi.dst v) w → Q (.panic c) a w) :
    ∀ (fuel : Nat) (S : World → Prop) (listed : Array Bool) (a : Act) (w : World), closed ops listed →
      (∀ j oj, ops[j]? = some oj → j ≠ i → listed.getD j true = false → (∀ e ∈ oj.after, Region.binds .any e = true → e.on ≠ i) → oi.apart ops oj = true) →
      i ∈ Region.ready .any ops listed → Yields P ops oi v a → S w →
      wpAnyL P ops Q fuel S (listed.setIfInBounds i true) (a.put oi.dst v) w → wpAnyL P ops Q (fuel + 1) S listed a w := by
  intro fuel
  induction fuel with
  | zero =>
    intro S listed a w _ _ hr hy hS H
    refine ⟨fun h => (by rw [h] at hr; cases hr), fun j hj => ?_⟩
    by_cases hji : j = i
    · subst hji; exact hy.wpOp hi ⟨S, fun _ => rfl, hS, H⟩
    · have := ready_mono hj hji
      rw [H.1] at this
      cases this
  | succ fuel ih =>
    intro S listed a w hD hfree hr hy hS H
    refine ⟨fun h => (by rw [h] at hr; cases hr), fun j hj => ?_⟩
    by_cases hji : j = i
    · subst hji; exact hy.wpOp hi ⟨S, fun _ => rfl, hS, H⟩
    · have h1 := H.2 j (ready_mono hj hji)
      obtain ⟨hjun, oj, hoj, hall⟩ := mem_ready.1 hj
      have hnot : ∀ e ∈ oj.after, Region.binds .any e = true → e.on ≠ i := fun e he hb heq => by
        have h1 := hall e he hb
        have h0 := (mem_ready.1 hr).1
        rw [heq] at h1
        exact unl h0 h1
      have h2 := wpOp_put hoj (hfree j oj hoj hji hjun hnot) (fun cs b => hsel i oi cs b hi) (fun cs b => hsel j oj cs b hoj) hQ hy h1
      have hfree' : ∀ k ok, ops[k]? = some ok → k ≠ i → (listed.setIfInBounds j true).getD k true = false →
          (∀ e ∈ ok.after, Region.binds .any e = true → e.on ≠ i) → oi.apart ops ok = true := fun k ok hk hki hun hno => by
        refine hfree k ok hk hki ?_ hno
        by_cases hjk : j = k
        · subst hjk; exact hjun
        · rw [getD_set_ne true hjk] at hun; exact hun
      refine wpOp_mono ?_ h2
      rintro a' w' ⟨h3, S', hS', h4, h5⟩
      refine ⟨S', hS', h4, ih S' (listed.setIfInBounds j true) a' w' (closed_set hD hj) hfree' (ready_mono hr (Ne.symm hji)) h3 h4 ?_⟩
      rw [Array.setIfInBounds_comm _ _ hji]
      exact h5
theorem wpAnyL_takeP {i : Nat} {oi : Oper} {v : Value} {fuel : Nat} {listed : Array Bool} {a : Act} {w : World} (hD : closed ops listed) (hi : ops[i]? = some oi)
    (hs : Region.noSelect ops = true) (hf : Region.free .any ops listed i = true) (hr : i ∈ Region.ready .any ops listed)
    (hQ : ∀ c a w, Q (.panic c) (a.put oi.dst v) w → Q (.panic c) a w) (hy : Yields P ops oi v a) (hS : S w)
    (h : wpAnyL P ops Q fuel S (listed.setIfInBounds i true) (a.put oi.dst v) w) : wpAnyL P ops Q (fuel + 1) S listed a w :=
  wpAnyL_firstP hi (Region.noSelect_spec hs) hQ fuel S listed a w hD (Region.free_spec hi hf) hr hy hS h
theorem wpAnyL_take {i : Nat} {oi : Oper} {v : Value} {fuel : Nat} {listed : Array Bool} {a : Act} {w : World} (hD : closed ops listed) (hi : ops[i]? = some oi) (hload : isLoad oi = true)
    (hs : Region.noSelect ops = true) (hf : Region.free .any ops listed i = true) (hr : i ∈ Region.ready .any ops listed)
    (hQ : ∀ c a w, Q (.panic c) (a.put oi.dst v) w → Q (.panic c) a w) (hy : YieldsIf P ops S oi v a) (hS : S w)
    (h : wpAnyL P ops Q fuel S (listed.setIfInBounds i true) (a.put oi.dst v) w) : wpAnyL P ops Q (fuel + 1) S listed a w :=
  wpAnyL_first hi hload (Region.noSelect_spec hs) hQ fuel listed a w hD (Region.free_spec hi hf) hr hy hS h
theorem wpAnyL_sole {i : Nat} {fuel : Nat} {listed : Array Bool} {a : Act} {w : World} (hr : Region.ready .any ops listed = [i])
    (h : wpOp P ops Q i (fun a' w' => ∃ S' : World → Prop, (sinkOnly ops i = false → S' = S) ∧ S' w' ∧ wpAnyL P ops Q fuel S' (listed.setIfInBounds i true) a' w') a w) : wpAnyL P ops Q (fuel + 1) S listed a w :=
  ⟨fun h0 => (by rw [hr] at h0; cases h0), fun j hj => (by rw [hr, List.mem_singleton] at hj; subst hj; exact h)⟩
theorem wpAnyL_done {listed : Array Bool} {a : Act} {w : World} (hr : Region.ready .any ops listed = []) (h : Q .normal a w) : ∀ fuel, wpAnyL P ops Q fuel S listed a w
  | 0 => ⟨hr, h⟩
  | _ + 1 => ⟨fun _ => h, by rw [hr]; simp⟩
theorem wp_region_L {id : Nat} {a : Act} {w : World} (hm : P.follows .mixedOrders = true)
    (h : wpAnyL P ops Q ops.size S (Array.replicate ops.size false) a w.drew) : (Code.region id ops true).wp P Q a w :=
  wp_region_any hm (wpAny_of_L _ _ _ _ _ h)
end
end Go.Proofs.YtnmacidlgadmgaaDoor

namespace Go.Proofs.YtnmacidlgadmgaaDoor
open Go.RowKit

/-! ## The function under way, at a list of things to do -/
def At (P : Program) (f : FuncId) (R : Ending → World → Prop) (k : List Item) (a : Act) (w : World) : Prop :=
  ∀ (b : Frame) (cs : List Frame), b.fn = f → b.kind = .normal → ∃ e w' fr, R e w' ∧ Comes P (lone (b.at a k) cs w) (lone fr cs w') e ∧ fr.fn = f ∧ fr.leaving P w' e
section
variable {P : Program} {f : FuncId} {R : Ending → World → Prop} {k : List Item} {a : Act} {w : World}
theorem At.step {k' : List Item} (h : ∀ (b : Frame) (cs : List Frame), step P (lone (b.at a k) cs w) = .next (lone (b.at a k') cs w)) (h' : At P f R k' a w) : At P f R k a w := by
  intro b cs hf hk
  obtain ⟨e, w', fr, hR, hc, hl⟩ := h' b cs hf hk
  exact ⟨e, w', fr, hR, hc.of_steps (.one (h b cs)), hl⟩
def QK (P : Program) (f : FuncId) (R : Ending → World → Prop) (k : List Item) : Exit → Act → World → Prop := fun e a w => e = .normal ∧ At P f R k a w
theorem At.leaf {c : Code} (h : c.wp P (QK P f R k) a w) : At P f R (.code c :: k) a w := by
  intro b cs hf hk
  obtain ⟨e, a', w', ⟨rfl, hA⟩, harr⟩ := h b k cs
  obtain ⟨e, w'', fr, hR, hc, hl⟩ := hA b cs hf hk
  exact ⟨e, w'', fr, hR, hc.of_steps harr, hl⟩
theorem At.ops {ops : Array Oper} {l : List Nat} (h : wpOps P ops (QK P f R k) l a w) : At P f R (.inRegion ops l :: k) a w := by
  intro b cs hf hk
  obtain ⟨e, a', w', ⟨rfl, hA⟩, harr⟩ := wp_ops l a w h b k cs
  obtain ⟨e, w'', fr, hR, hc, hl⟩ := hA b cs hf hk
  exact ⟨e, w'', fr, hR, hc.of_steps harr, hl⟩
theorem At.ret {fn : Func} {v : Value} (hf : P.funcs[f]? = some fn) (hd : a.defers = []) (hr : (results fn a.tmps).run P w = .ok v w) (hR : R (.returned v) w) : At P f R (.code .ret :: k) a w := by
  intro b cs hb hk
  exact ⟨.returned v, w, _, hR, .one step_ret, hb, rfl, hd, hk, fn, by rw [← hf, ← hb]; rfl, hr⟩
theorem At.end {fn : Func} {v : Value} (hf : P.funcs[f]? = some fn) (hd : a.defers = []) (hr : (results fn a.tmps).run P w = .ok v w) (hR : R (.returned v) w) : At P f R [] a w := by
  intro b cs hb hk
  exact ⟨.returned v, w, _, hR, .one step_end, hb, rfl, hd, hk, fn, by rw [← hf, ← hb]; rfl, hr⟩
theorem calls_of_At {fn : Func} {c : Code} {args : Array Value} (hf : P.funcs[f]? = some fn) (hb : fn.body = some c)
    (h : At P f R [.code c] { tmps := args ++ Array.replicate (fn.ntmps - args.size) undef, defers := [] } w) : Calls P f args w R := by
  intro cs
  let b : Frame := { (default : Frame) with fn := f, kind := .normal }
  have henter : Frame.enter P f args .normal = b.at { tmps := args ++ Array.replicate (fn.ntmps - args.size) undef, defers := [] } [.code c] := by
    simp [Frame.enter, Frame.at, hf, hb, b]
  obtain ⟨e, w', fr, hR, hc, hl⟩ := h b cs rfl rfl
  rw [← henter] at hc
  exact ⟨e, w', fr, hR, hc, hl⟩
theorem At.mono {R' : Ending → World → Prop} (h : At P f R k a w) (hr : ∀ e w', R e w' → R' e w') : At P f R' k a w :=
  fun b cs hf hk => let ⟨e, w', fr, hR, rest⟩ := h b cs hf hk; ⟨e, w', fr, hr _ _ hR, rest⟩
/-- A loop, unrolled by a relation. -/
theorem At.loop {c : Code} (I : Act → World → Prop) (μ : Act → World → Nat) (h₀ : I a w)
    (round : ∀ a w, I a w → (∀ a' w', I a' w' → μ a' w' < μ a w → At P f R (.inLoop c :: k) a' w') → At P f R (.code c :: .inLoop c :: k) a w) : At P f R (.code (.loop c) :: k) a w := by
  have key : ∀ n a w, μ a w = n → I a w → At P f R (.code c :: .inLoop c :: k) a w := by
    intro n
    induction n using Nat.strongRecOn with
    | _ n ih =>
      intro a w hn hI
      exact round a w hI fun a' w' hI' hlt => At.step (fun b cs => step_inLoop) (ih (μ a' w') (hn ▸ hlt) a' w' rfl hI')
  exact At.step (fun b cs => step_loop) (key _ a w rfl h₀)
end

/-! ## The state of a walk, and its plan -/
inductive Md where
  | ctl
  | ord (ops : Array Oper) (rest : List Nat)
  | drw (fuel : Nat) (ops : Array Oper) (listed : Array Bool) (cur : Option (Nat × Bool)) (sb : Blks)
structure KS where
  todo : List Item
  tmps : Array Value
  bs : Blks
  gs : Bigs
  md : Md
/-- A step of a plan. -/
inductive Ins where
  | c
  | d (X : List Nat)
  | at (i : Nat) (sole : Bool)
  | setv (s : Nat) (v : Value)
  | setc (k i : Nat) (v : Value)
  | v
  | u
  | own (k : Nat)
  | ext (k : Nat)
  | put (k : Nat)
  | call (v : Value)
  | eq (b : Bool)
  | fact (v : Value)
/-- Within a region? -/
def Ins.inReg : Ins → Bool
  | .c => false
  | .d _ => false
  | _ => true
/-- A plan of a region where an operation that makes memory may come up ahead of others: each order to its end. -/
inductive ROrc where
  | done
  | s (l : List Ins) (o : ROrc)
  | split (s : Nat) (t e : ROrc)
  | new (k : Nat → ROrc)
  | big (z : Int) (k : Option Addr → Nat → ROrc)
  | fork (i j : Nat) (a b : ROrc)
/-- A plan: steps in a row; then: the end, a way that parts, a name for a number, a block's address, a big number. -/
inductive Orc where
  | fin
  | s (l : List Ins) (o : Orc)
  | split (s : Nat) (t e : Orc)
  | gen (s : Nat) (k : Int → Orc)
  | new (k : Nat → Orc)
  | big (z : Int) (k : Option Addr → Nat → Orc)
  | meet (S : (Nat → Nat) → (Nat → Option Addr × Nat) → Array Value × Blks × Bigs) (t : ROrc) (o : (Nat → Nat) → (Nat → Option Addr × Nat) → Orc)
  | loop (I : Nat → (Nat → Int) → Prop) (μ : Nat → (Nat → Int) → Nat) (S : Nat → (Nat → Int) → (Nat → Value) → (Nat → Option Addr × Nat) → Array Value × Blks × Bigs)
      (o : Nat → (Nat → Int) → (Nat → Value) → (Nat → Option Addr × Nat) → Orc)
  | cut (T : List Item) (I : (Nat → Int) → Prop) (S : (Nat → Int) → (Nat → Value) → (Nat → Option Addr × Nat) → Array Value × Blks × Bigs) (t : Orc)
      (o : (Nat → Int) → (Nat → Value) → (Nat → Option Addr × Nat) → Orc)
  | again (d : Nat)
  | ret (ks : List Nat)

def ctl (tmps : Array Value) : List Item → Option (List Item × Md)
  | .code .skip :: k => some (k, .ctl)
  | .code (.label _) :: k => some (k, .ctl)
  | .inBlock _ :: k => some (k, .ctl)
  | .inScope _ :: k => some (k, .ctl)
  | .code (.seq a b) :: k => some (.code a :: .code b :: k, .ctl)
  | .code (.cond c x y) :: k => match Act.eval ⟨tmps, []⟩ c with
    | .bool true => some (.code x :: k, .ctl)
    | .bool false => some (.code y :: k, .ctl)
    | _ => none
  | .code (.block id c) :: k => some (.code c :: .inBlock id :: k, .ctl)
  | .code (.scope c) :: k => some (.code c :: .inScope c :: k, .ctl)
  | .code (.loop c) :: k => some (.code c :: .inLoop c :: k, .ctl)
  | .inLoop c :: k => some (.code c :: .inLoop c :: k, .ctl)
  | .code (.exit id) :: k => (exitTo id k).map (·, .ctl)
  | .code (.goto l) :: k => (gotoIn l k).map (·, .ctl)
  | .code (.region _ ops false) :: k => some (k, .ord ops (List.range ops.size))
  | _ => none
/-- What is to do behind n steps of the function's text, the conditions' answers given. -/
def walkTodo : Nat → List Bool → List Item → List Item
  | 0, _, k => k
  | n + 1, b :: bs, .code (.cond _ x y) :: k => walkTodo n bs (.code (if b then x else y) :: k)
  | n + 1, bs, .code (.region _ _ _) :: k => walkTodo n bs k
  | n + 1, bs, k => match ctl #[] k with
    | some (k', _) => walkTodo n bs k'
    | none => []
/-- The operation that stands next, and the state behind it. -/
def KS.now (s : KS) : Option (Oper × Array Oper) :=
  match s.md with
  | .ord ops (i :: _) => (ops[i]?).map (·, ops)
  | .drw (_ + 1) ops _ (some (i, _)) _ => (ops[i]?).map (·, ops)
  | _ => none
/-- May it write, or make memory? -/
def KS.loud (s : KS) : Bool :=
  match s.md with
  | .ord .. => true
  | .drw _ _ _ (some (_, sole)) _ => sole
  | _ => false
/-- May it write into block k? -/
def KS.may (s : KS) (k : Nat) : Bool :=
  match s.md with
  | .ord .. => true
  | .drw _ ops _ (some (i, true)) sb => sinkOnly ops i || (match sb[k]? with
    | none => true
    | some (_, []) => true
    | _ => false)
  | _ => false
def KS.next (s : KS) : Md :=
  match s.md with
  | .ord ops (_ :: rest) => .ord ops rest
  | .drw (n + 1) ops listed (some (i, _)) sb => .drw n ops (listed.setIfInBounds i true) none sb
  | m => m
/-- Behind a store: where the rest waits for it, what may be looked at is what stands now. -/
def KS.nextP (s : KS) (bs : Blks) : Md :=
  match s.md with
  | .ord ops (_ :: rest) => .ord ops rest
  | .drw (n + 1) ops listed (some (i, _)) sb => .drw n ops (listed.setIfInBounds i true) none (if sinkOnly ops i then bs else sb)
  | m => m
def putAt (tmps : Array Value) (dst : Option Tmp) (v : Value) : Array Value :=
  match dst with
  | some d => tmps.setIfInBounds d v
  | none => tmps
def KS.adv (s : KS) (o : Oper) (v : Value) : KS := ⟨s.todo, putAt s.tmps o.dst v, s.bs, s.gs, s.next⟩
def KS.ev (s : KS) : Operand → Value := Act.eval ⟨s.tmps, []⟩
/-- The blocks that an operation may look at. -/
def KS.blocks (s : KS) : Blks :=
  match s.md with
  | .drw _ _ _ (some (_, false)) sb => sb
  | _ => s.bs
def Ex (w0 : World) (es : Blks) : Prop := ∀ x ∈ es, x.1 < w0.heap.size ∧ ∀ i v, x.2[i]? = some v → w0.cell? ⟨x.1, i, none⟩ = some v
def holds (sb : Blks) (W : World) : Prop := ∀ x ∈ sb, ∀ i v, x.2[i]? = some v → W.cell? ⟨x.1, i, none⟩ = some v
/-- The blocks that are not written, the others with no word on their cells. -/
def blank (X : List Nat) : Nat → Blks → Blks
  | _, [] => []
  | i, x :: r => (if X.contains i then (x.1, []) else x) :: blank X (i + 1) r
def subBlks (sb bs : Blks) : Prop := ∀ (j : Nat) x, sb[j]? = some x → ∃ y, bs[j]? = some y ∧ x.1 = y.1 ∧ (x.2 = [] ∨ x.2 = y.2)
def hold2 (sb es : Blks) (W : World) : Prop := holds sb W ∧ holds es W
def chk (ops : Array Oper) (listed : Array Bool) : Option (Nat × Bool) → Bool
  | none => true
  | some (i, true) => (Region.ready .any ops listed).contains i
  | some (i, false) => (Region.ready .any ops listed).contains i && Region.free .any ops listed i

section
variable (P : Program) (f : FuncId) (R : Ending → World → Prop) (w0 : World) (es : Blks)
def CallV (bs : Blks) (gs : Bigs) (g : FuncId) (args : Array Value) (v : Value) : Prop :=
  ∀ W, St w0 W bs gs → Calls P g args W fun e w' => e = .returned v ∧ Below W.heap.size W w'
def CallB (bs : Blks) (gs : Bigs) (g : FuncId) (args : Array Value) (z : Int) : Prop :=
  ∀ W, St w0 W bs gs → Calls P g args W fun e w' => ∃ A c, e = .returned (.agg #[.bool (sg z), .slice A (nd z) c]) ∧ RB w' A c z ∧ Below W.heap.size W w'
def LeafV (bs : Blks) (gs : Bigs) (v : Value) : Prop := ∀ W, St w0 W bs gs → R (.returned v) W
def FactV (s : Sem Next) (v : Value) : Prop := ∀ W, s.run P W = .ok (.value v) W
def EqV (t : TypeId) (x y : Value) (b : Bool) : Prop := ∀ W, (Op.equalIn 10000 t x y).run P W = .ok b W
def AtM (s : KS) : Prop :=
  match s.md with
  | .ctl => ∀ W, St w0 W s.bs s.gs → At P f R s.todo ⟨s.tmps, []⟩ W
  | .ord ops rest => ∀ W, St w0 W s.bs s.gs → wpOps P ops (QK P f R s.todo) rest ⟨s.tmps, []⟩ W
  | .drw n ops listed cur sb => chk ops listed cur = true → Region.noSelect ops = true → closed ops listed → (Region.ready .any ops listed ≠ [] → subBlks sb s.bs) → ∀ W, St w0 W s.bs s.gs →
    match cur with
    | some (i, true) => ∀ m, n = m + 1 → wpOp P ops (QK P f R s.todo) i (fun a' w' => ∃ S' : World → Prop, (sinkOnly ops i = false → S' = hold2 sb es) ∧ S' w' ∧ wpAnyL P ops (QK P f R s.todo) m S' (listed.setIfInBounds i true) a' w') ⟨s.tmps, []⟩ W
    | _ => wpAnyL P ops (QK P f R s.todo) n (hold2 sb es) listed ⟨s.tmps, []⟩ W
/-- The results' values; ks: the blocks where those lie that lie in variables. -/
def resV (bs : Blks) (tmps : Array Value) : List ResultVar → List Nat → Prop → Option (List Value × Prop)
  | [], _, p => some ([], p)
  | .tmp t :: r, ks, p => (resV bs tmps r ks p).map fun x => (tmps.getD t undef :: x.1, x.2)
  | .cell a t :: r, k :: ks, p =>
    match bs[k]? with
    | some (b, cs) =>
      match loadW P b cs t (tmps.getD a undef) with
      | some (v, q) => (resV bs tmps r ks (q ∧ p)).map fun x => (v :: x.1, x.2)
      | none => none
    | none => none
  | _, _, _ => none
def oneV : List Value → Value
  | [v] => v
  | vs => .tuple vs.toArray
def insW (i : Ins) (s : KS) (K : KS → Prop) : Prop :=
  match i with
  | .c =>
    match s.md with
    | .ctl => match ctl s.tmps s.todo with
      | some (k, md) => K ⟨k, s.tmps, s.bs, s.gs, md⟩
      | none => False
    | .ord _ [] => K ⟨s.todo, s.tmps, s.bs, s.gs, .ctl⟩
    | .drw _ ops listed none _ => match Region.ready .any ops listed with
      | [] => K ⟨s.todo, s.tmps, s.bs, s.gs, .ctl⟩
      | _ => False
    | _ => False
  | .d X =>
    match s.md, s.todo with
    | .ctl, .code (.region _ ops true) :: k => match Region.noSelect ops with
      | true => K ⟨k, s.tmps, s.bs, s.gs, .drw ops.size ops (Array.replicate ops.size false) none (blank X 0 s.bs)⟩
      | false => False
    | _, _ => False
  | .at i sole =>
    match s.md with
    | .drw (n + 1) ops listed none sb =>
      match (if sole then decide (Region.ready .any ops listed = [i]) else chk ops listed (some (i, false))) with
      | true => K ⟨s.todo, s.tmps, s.bs, s.gs, .drw (n + 1) ops listed (some (i, sole)) sb⟩
      | false => False
    | _ => False
  | .setv sl v =>
    match s.tmps[sl]? with
    | some u => u = v ∧ K ⟨s.todo, s.tmps.setIfInBounds sl v, s.bs, s.gs, s.md⟩
    | none => False
  | .setc k i v =>
    match s.bs[k]? with
    | some (b, cs) => match cs[i]? with
      | some u => u = v ∧ K ⟨s.todo, s.tmps, s.bs.set k (b, cs.set i v), s.gs, s.md⟩
      | none => False
    | none => False
  | .v =>
    match s.now with
    | some (op, ops) => match Region.wanted op (yielded ops s.tmps), prun P (execOp s.ev op) with
      | true, some (.value v) => K (s.adv op v)
      | _, _ => False
    | none => False
  | .u =>
    match s.now with
    | some (op, ops) => match Region.wanted op (yielded ops s.tmps) with
      | false => K (s.adv op undef)
      | true => False
    | none => False
  | .own k =>
    match s.now with
    | some (op, ops) => match Region.wanted op (yielded ops s.tmps), s.blocks[k]?, op.op with
      | true, some (b, cs), .load t x => match loadW P b cs t (s.ev x) with
        | some (v, q) => q ∧ K (s.adv op v)
        | none => False
      | _, _, _ => False
    | none => False
  | .ext k =>
    match s.now with
    | some (op, ops) => match Region.wanted op (yielded ops s.tmps), es[k]?, op.op with
      | true, some (b, cs), .load t x => match loadW P b cs t (s.ev x) with
        | some (v, q) => q ∧ K (s.adv op v)
        | none => False
      | _, _, _ => False
    | none => False
  | .put k =>
    match s.now, s.may k with
    | some (op, ops), true => match Region.wanted op (yielded ops s.tmps), s.bs[k]? with
      | true, some (b, cs) => match vrun P b s.gs.isEmpty (execOp s.ev op) cs True with
        | some (.skip, cs', q) => q ∧ K ⟨s.todo, putAt s.tmps op.dst undef, s.bs.set k (b, cs'), s.gs, s.nextP (s.bs.set k (b, cs'))⟩
        | _ => False
      | _, _ => False
    | _, _ => False
  | .call v =>
    match s.now, s.loud with
    | some (op, ops), true => match Region.wanted op (yielded ops s.tmps), prun P (execOp s.ev op) with
      | true, some (.enter g args) => CallV P w0 s.bs s.gs g args v ∧ K (s.adv op v)
      | _, _ => False
    | _, _ => False
  | .eq b =>
    match s.now with
    | some (op, ops) => match Region.wanted op (yielded ops s.tmps), op.op with
      | true, .binOp .eql t x y _ => match s.ev x, s.ev y, prun P (eqGuard .eql t x y (s.ev x) (s.ev y)) with
        | .agg xs, .agg ys, some _ => EqV P t (.agg xs) (.agg ys) b ∧ K (s.adv op (.bool b))
        | _, _, _ => False
      | true, .binOp .neq t x y _ => match s.ev x, s.ev y, prun P (eqGuard .neq t x y (s.ev x) (s.ev y)) with
        | .agg xs, .agg ys, some _ => EqV P t (.agg xs) (.agg ys) b ∧ K (s.adv op (.bool !b))
        | _, _, _ => False
      | _, _ => False
    | none => False
  | .fact v =>
    match s.now with
    | some (op, ops) => match Region.wanted op (yielded ops s.tmps) with
      | true => FactV P (execOp s.ev op) v ∧ K (s.adv op v)
      | false => False
    | none => False
def insL : List Ins → KS → (KS → Prop) → Prop
  | [], s, K => K s
  | i :: l, s, K => insW P w0 es i s fun s' => insL l s' K
def runR : ROrc → KS → (KS → Prop) → Prop
  | .done, s, K =>
    match s.md with
    | .drw _ ops listed none _ => match Region.ready .any ops listed with
      | [] => K s
      | _ => False
    | _ => False
  | .s l o, s, K =>
    match l.all Ins.inReg with
    | true => insL P w0 es l s fun s' => runR o s' K
    | false => False
  | .split sl t e, s, K =>
    match s.tmps[sl]? with
    | some (.bool B) => (B = true → runR t ⟨s.todo, s.tmps.setIfInBounds sl (.bool true), s.bs, s.gs, s.md⟩ K) ∧ (B = false → runR e ⟨s.todo, s.tmps.setIfInBounds sl (.bool false), s.bs, s.gs, s.md⟩ K)
    | _ => False
  | .new k, s, K =>
    match s.now, s.loud with
    | some (op, ops), true => match Region.wanted op (yielded ops s.tmps), nrun P (execOp s.ev op) with
      | true, some (cs, _, kk) => ∀ r, match kk r with
        | some (.value v) => runR (k r) ⟨s.todo, putAt s.tmps op.dst v, s.bs ++ [(r, cs)], s.gs, s.next⟩ K
        | _ => False
      | _, _ => False
    | _, _ => False
  | .big z k, s, K =>
    match s.now, s.loud with
    | some (op, ops), true => match Region.wanted op (yielded ops s.tmps), prun P (execOp s.ev op) with
      | true, some (.enter g args) => CallB P w0 s.bs s.gs g args z ∧ ∀ A c, runR (k A c) ⟨s.todo, putAt s.tmps op.dst (.agg #[.bool (sg z), .slice A (nd z) c]), s.bs, s.gs ++ [(A, c, z)], s.next⟩ K
      | _, _ => False
    | _, _ => False
  | .fork i j a b, s, K =>
    match s.md with
    | .drw (n + 1) ops listed none sb => match decide (Region.ready .any ops listed = [i, j]) with
      | true => runR a ⟨s.todo, s.tmps, s.bs, s.gs, .drw (n + 1) ops listed (some (i, true)) sb⟩ K ∧ runR b ⟨s.todo, s.tmps, s.bs, s.gs, .drw (n + 1) ops listed (some (j, true)) sb⟩ K
      | false => False
    | _ => False
def lite (x : Array Value × Blks × Bigs) (s : KS) : Prop :=
  s.tmps = x.1 ∧ (∃ t, s.bs = x.2.1 ++ t) ∧ x.2.2 ⊆ s.gs
def runW : Orc → List (KS → Prop) → KS → Prop
  | .fin, _, s => AtM P f R w0 es s
  | .s l o, Ls, s => insL P w0 es l s (runW o Ls)
  | .split sl t e, Ls, s =>
    match s.tmps[sl]? with
    | some (.bool B) => (B = true → runW t Ls ⟨s.todo, s.tmps.setIfInBounds sl (.bool true), s.bs, s.gs, s.md⟩) ∧ (B = false → runW e Ls ⟨s.todo, s.tmps.setIfInBounds sl (.bool false), s.bs, s.gs, s.md⟩)
    | _ => False
  | .gen sl k, Ls, s =>
    match s.tmps[sl]? with
    | some (.int κ n) => ∀ x, x = n → runW (k x) Ls ⟨s.todo, s.tmps.setIfInBounds sl (.int κ x), s.bs, s.gs, s.md⟩
    | _ => False
  | .new k, Ls, s =>
    match s.now, s.loud with
    | some (op, ops), true => match Region.wanted op (yielded ops s.tmps), nrun P (execOp s.ev op) with
      | true, some (cs, _, kk) => ∀ r, match kk r with
        | some (.value v) => runW (k r) Ls ⟨s.todo, putAt s.tmps op.dst v, s.bs ++ [(r, cs)], s.gs, s.next⟩
        | _ => False
      | _, _ => False
    | _, _ => False
  | .big z k, Ls, s =>
    match s.now, s.loud with
    | some (op, ops), true => match Region.wanted op (yielded ops s.tmps), prun P (execOp s.ev op) with
      | true, some (.enter g args) => CallB P w0 s.bs s.gs g args z ∧ ∀ A c, runW (k A c) Ls ⟨s.todo, putAt s.tmps op.dst (.agg #[.bool (sg z), .slice A (nd z) c]), s.bs, s.gs ++ [(A, c, z)], s.next⟩
      | _, _ => False
    | _, _ => False
  | .meet S t o, Ls, s =>
    runR P w0 es t s (fun s' => ∃ ρ α, s'.tmps = (S ρ α).1 ∧ s'.bs = (S ρ α).2.1 ∧ s'.gs = (S ρ α).2.2) ∧ ∀ ρ α, runW (o ρ α) Ls ⟨s.todo, (S ρ α).1, (S ρ α).2.1, (S ρ α).2.2, .ctl⟩
  | .loop I μ S o, Ls, s =>
    match s.md with
    | .ctl => (∃ k ξ u α, I k ξ ∧ lite (S k ξ u α) s) ∧
        ∀ k ξ u α, I k ξ → runW (o k ξ u α) ((fun s' => match s'.md with
          | .ctl => s'.todo = s.todo ∧ ∃ k' ξ' u' α', I k' ξ' ∧ μ k' ξ' < μ k ξ ∧ lite (S k' ξ' u' α') s'
          | _ => False) :: Ls) ⟨s.todo, (S k ξ u α).1, (S k ξ u α).2.1, (S k ξ u α).2.2, .ctl⟩
    | _ => False
  | .cut T I S t o, Ls, s =>
    runW t ((fun s' => match s'.md with
      | .ctl => s'.todo = T ∧ ∃ ξ u α, I ξ ∧ lite (S ξ u α) s'
      | _ => False) :: Ls) s ∧ ∀ ξ u α, I ξ → runW (o ξ u α) Ls ⟨T, (S ξ u α).1, (S ξ u α).2.1, (S ξ u α).2.2, .ctl⟩
  | .again d, Ls, s =>
    match Ls[d]? with
    | some L => L s
    | none => False
  | .ret ks, _, s =>
    match s.md, P.funcs[f]? with
    | .ctl, some fn => match s.todo with
      | .code .ret :: _ => match resV P s.bs s.tmps fn.results.toList ks True with
        | some (vs, q) => q ∧ LeafV R w0 s.bs s.gs (oneV vs)
        | none => False
      | [] => match resV P s.bs s.tmps fn.results.toList ks True with
        | some (vs, q) => q ∧ LeafV R w0 s.bs s.gs (oneV vs)
        | none => False
      | _ => False
    | _, _ => False
end
end Go.Proofs.YtnmacidlgadmgaaDoor

namespace Go.Proofs.YtnmacidlgadmgaaDoor
open Go.RowKit
section
variable {P : Program} {f : FuncId} {R : Ending → World → Prop} {w0 : World} {es : Blks}
theorem holds_below {sb : Blks} {W W' : World} (h : holds sb W) (hb : Below W.heap.size W W') : holds sb W' :=
  fun x hx i v hv => by
    have hc := h x hx i v hv
    exact ((bcell hb).1 _ _ (World.block_lt_of_cell? W ⟨x.1, i, none⟩ hc)).trans hc
theorem hold2_below {sb : Blks} {W W' : World} (h : hold2 sb es W) (hb : Below W.heap.size W W') : hold2 sb es W' := ⟨holds_below h.1 hb, holds_below h.2 hb⟩
theorem holds_of_St {bs : Blks} {gs : Bigs} {W : World} (h : St w0 W bs gs) : holds bs W := fun x hx => (h.2.1 x hx).2.2.2
theorem holds_of_Ex {bs : Blks} {gs : Bigs} {W : World} (hE : Ex w0 es) (h : St w0 W bs gs) : holds es W := fun x hx i v hv => ((bcell h.1).1 _ _ (hE x hx).1).trans ((hE x hx).2 i v hv)
theorem bl_lay (W : World) (o : Obj) : Below W.heap.size W (W.alloc o) := (Below.refl _ _).alloc (Nat.le_refl _) _

/-- The blocks that the region found, and what it made since. -/
def KS.pre (s : KS) (bs : Blks) : Prop :=
  match s.md with
  | .drw _ _ _ _ sb => subBlks sb bs
  | _ => True
theorem hold2_of {sb bs : Blks} {gs : Bigs} {W : World} (hE : Ex w0 es) (h : St w0 W bs gs) (hs : subBlks sb bs) : hold2 sb es W := by
  refine ⟨fun x hx i v hv => ?_, holds_of_Ex hE h⟩
  obtain ⟨j, hj⟩ := List.mem_iff_getElem?.1 hx
  obtain ⟨y, hy, h1, h2⟩ := hs j x hj
  rcases h2 with h2 | h2
  · rw [h2] at hv; simp at hv
  · rw [h2] at hv; rw [h1]; exact holds_of_St h y (List.mem_of_getElem? hy) i v hv
theorem sub_refl (bs : Blks) : subBlks bs bs := fun _ x h => ⟨x, h, rfl, Or.inr rfl⟩
theorem sub_blank (X : List Nat) : ∀ (i : Nat) (bs : Blks), subBlks (blank X i bs) bs
  | _, [], j, x, h => by simp [blank] at h
  | i, b :: bs, 0, x, h => by
    simp only [blank, List.getElem?_cons_zero, Option.some.injEq] at h
    refine ⟨b, rfl, ?_⟩
    subst h
    split
    · exact ⟨rfl, Or.inl rfl⟩
    · exact ⟨rfl, Or.inr rfl⟩
  | i, b :: bs, j + 1, x, h => by
    simp only [blank, List.getElem?_cons_succ] at h
    obtain ⟨y, hy, k⟩ := sub_blank X (i + 1) bs j x h
    exact ⟨y, by simpa using hy, k⟩
theorem sub_append {sb bs t : Blks} (h : subBlks sb bs) : subBlks sb (bs ++ t) := fun j x hx => by
  obtain ⟨y, hy, k⟩ := h j x hx
  exact ⟨y, by rw [List.getElem?_append_left (List.getElem?_eq_some_iff.1 hy).1]; exact hy, k⟩
theorem sub_set {sb bs : Blks} {k b : Nat} {cs cs' : List Value} (h : subBlks sb bs) (hb : bs[k]? = some (b, cs)) (hk : sb[k]? = none ∨ ∃ c, sb[k]? = some (c, [])) : subBlks sb (bs.set k (b, cs')) := fun j x hx => by
  obtain ⟨y, hy, h1, h2⟩ := h j x hx
  by_cases e : k = j
  · subst e
    rw [hb] at hy
    obtain rfl := Option.some.inj hy
    rcases hk with hk | ⟨c, hk⟩
    · rw [hk] at hx; cases hx
    · rw [hk] at hx
      obtain rfl := Option.some.inj hx
      exact ⟨(b, cs'), by rw [List.getElem?_set, if_pos rfl, if_pos (List.getElem?_eq_some_iff.1 hb).1], h1, Or.inl rfl⟩
  · exact ⟨y, by rw [List.getElem?_set, if_neg e]; exact hy, h1, h2⟩
def KS.sees (w0 : World) (es : Blks) (s : KS) (W : World) : Prop :=
  match s.md with
  | .drw _ _ _ (some (_, false)) sb => hold2 sb es W
  | _ => St w0 W s.bs s.gs
theorem sees_blocks {s : KS} {W : World} (h : s.sees w0 es W) : holds s.blocks W := by
  obtain ⟨todo, tmps, bs, gs, md⟩ := s
  cases md with
  | ctl => exact holds_of_St h
  | ord ops rest => exact holds_of_St h
  | drw n ops listed cur sb =>
    cases cur with
    | none => exact holds_of_St h
    | some c =>
      obtain ⟨i, sole⟩ := c
      cases sole with
      | true => exact holds_of_St h
      | false => exact h.1
theorem sees_es {s : KS} {W : World} (hE : Ex w0 es) (h : s.sees w0 es W) : holds es W := by
  obtain ⟨todo, tmps, bs, gs, md⟩ := s
  cases md with
  | ctl => exact holds_of_Ex hE h
  | ord ops rest => exact holds_of_Ex hE h
  | drw n ops listed cur sb =>
    cases cur with
    | none => exact holds_of_Ex hE h
    | some c =>
      obtain ⟨i, sole⟩ := c
      cases sole with
      | true => exact holds_of_Ex hE h
      | false => exact h.2
theorem pre_more {s : KS} {bs : Blks} {x : Nat × List Value} (h : s.pre bs) : s.pre (bs ++ [x]) := by
  obtain ⟨todo, tmps, bs', gs, md⟩ := s
  cases md with
  | drw n ops listed cur sb => exact sub_append h
  | _ => trivial
theorem wpOp_of {ops : Array Oper} {Q : Exit → Act → World → Prop} {i : Nat} {o : Oper} {K : Act → World → Prop} {a : Act} {w : World} (ho : ops[i]? = some o) (hw : Region.wanted o (yielded ops a.tmps) = true) (h : o.wp P a w K Q) : wpOp P ops Q i K a w := by
  unfold wpOp; simp only [ho, hw, if_true]; exact .inl h
theorem wpOp_not {ops : Array Oper} {Q : Exit → Act → World → Prop} {i : Nat} {o : Oper} {K : Act → World → Prop} {a : Act} {w : World} (ho : ops[i]? = some o) (hw : Region.wanted o (yielded ops a.tmps) = false) (h : K (a.put o.dst undef) w) : wpOp P ops Q i K a w := by
  unfold wpOp; simp only [ho, hw, Bool.false_eq_true, if_false]; exact h
theorem put_at (tmps : Array Value) (dst : Option Tmp) (v : Value) : (Act.mk tmps []).put dst v = ⟨putAt tmps dst v, []⟩ := by cases dst <;> rfl
/-- An operation that may do what it likes: in a row, or the only one that may come up. -/
theorem AtM.loud (hE : Ex w0 es) {s : KS} {op : Oper} {ops : Array Oper} (hn : s.now = some (op, ops)) (hl : s.loud = true)
    (h : ∀ W, St w0 W s.bs s.gs → s.pre s.bs → ∀ i, ops[i]? = some op → ∀ K : Act → World → Prop,
      (∀ tmps bs gs W', AtM P f R w0 es ⟨s.todo, tmps, bs, gs, s.next⟩ → St w0 W' bs gs → s.pre bs → K ⟨tmps, []⟩ W') →
      (∀ tmps k b cs cs' gs W', s.bs[k]? = some (b, cs) → s.may k = true → AtM P f R w0 es ⟨s.todo, tmps, s.bs.set k (b, cs'), gs, s.nextP (s.bs.set k (b, cs'))⟩ → St w0 W' (s.bs.set k (b, cs')) gs → K ⟨tmps, []⟩ W') →
      wpOp P ops (QK P f R s.todo) i K ⟨s.tmps, []⟩ W) : AtM P f R w0 es s := by
  obtain ⟨todo, tmps, bs, gs, md⟩ := s
  cases md with
  | ctl => simp [KS.now] at hn
  | ord ops' rest =>
    cases rest with
    | nil => simp [KS.now] at hn
    | cons i rest =>
      simp only [KS.now, Option.map_eq_some_iff, Prod.mk.injEq] at hn
      obtain ⟨o, ho, rfl, rfl⟩ := hn
      intro W hS
      rw [wpOps_cons]
      exact h W hS trivial i ho _ (fun tmps' bs' gs' W' hA hS' _ => hA W' hS') (fun tmps' k b cs cs' gs' W' _ _ hA hS' => hA W' hS')
  | drw n ops' listed cur sb =>
    cases cur with
    | none => simp [KS.now] at hn
    | some c =>
      obtain ⟨i, sole⟩ := c
      cases n with
      | zero => simp [KS.now] at hn
      | succ n =>
        simp only [KS.now, Option.map_eq_some_iff, Prod.mk.injEq] at hn
        obtain ⟨o, ho, rfl, rfl⟩ := hn
        obtain rfl : sole = true := hl
        intro hc hsel hD hp W hS m hm'
        obtain rfl : n = m := by omega
        simp only [chk, List.contains_iff_mem] at hc
        have hi : i ∈ Region.ready .any ops' listed := hc
        have hp' : subBlks sb bs := hp (fun h0 => by rw [h0] at hi; cases hi)
        refine h W hS hp' i ho _ ?_ ?_
        · intro tmps' bs' gs' W' hA hS' hk
          exact ⟨hold2 sb es, fun _ => rfl, hold2_of hE hS' hk, hA rfl hsel (closed_set hD hi) (fun _ => hk) W' hS'⟩
        · intro tmps' k b cs cs' gs' W' hb hk hA hS'
          by_cases hs : sinkOnly ops' i = true
          · refine ⟨hold2 (bs.set k (b, cs')) es, fun h0 => (by rw [hs] at h0; cases h0), hold2_of hE hS' (sub_refl _), ?_⟩
            have hA' := hA
            simp only [KS.nextP, hs, if_true] at hA'
            exact hA' rfl hsel (closed_set hD hi) (fun _ => sub_refl _) W' hS'
          · have hs' : sinkOnly ops' i = false := by simpa using hs
            have hk2 : subBlks sb (bs.set k (b, cs')) := by
              simp only [KS.may, Bool.or_eq_true] at hk
              have hk' := hk.resolve_left hs
              refine sub_set hp' hb ?_
              split at hk'
              · exact Or.inl (by assumption)
              · exact Or.inr ⟨_, by assumption⟩
              · cases hk'
            refine ⟨hold2 sb es, fun _ => rfl, hold2_of hE hS' hk2, ?_⟩
            have hA' := hA
            simp only [KS.nextP, hs', Bool.false_eq_true, if_false] at hA'
            exact hA' rfl hsel (closed_set hD hi) (fun _ => hk2) W' hS'
/-- A load, in whichever mode. -/
theorem AtM.look (hE : Ex w0 es) {s : KS} {op : Oper} {ops : Array Oper} {v : Value} (hload : isLoad op = true) (hn : s.now = some (op, ops))
    (hv : (Region.wanted op (yielded ops s.tmps) = true ∧ ∀ W, s.sees w0 es W → (execOp s.ev op).run P W = .ok (.value v) W) ∨ (Region.wanted op (yielded ops s.tmps) = false ∧ v = undef))
    (hA : AtM P f R w0 es (s.adv op v)) : AtM P f R w0 es s := by
  by_cases hl : s.loud = true
  · refine AtM.loud hE hn hl fun W hS hK i hi K hKK _ => ?_
    have hsee : s.sees w0 es W := by
      obtain ⟨todo, tmps, bs, gs, md⟩ := s
      cases md with
      | ctl => simp [KS.now] at hn
      | ord ops rest => exact hS
      | drw n ops listed cur sb =>
        cases cur with
        | none => exact hS
        | some c =>
          obtain ⟨j, sole⟩ := c
          obtain rfl : sole = true := hl
          exact hS
    rcases hv with ⟨hw, hv⟩ | ⟨hw, rfl⟩
    · refine wpOp_of hi hw ?_
      show Oper.upon P op ⟨s.tmps, []⟩ K _ ((execOp s.ev op).run P W)
      rw [hv W hsee]
      show K ((Act.mk s.tmps []).put op.dst v) W
      rw [put_at]
      exact hKK _ _ _ W hA hS hK
    · refine wpOp_not hi hw ?_
      rw [put_at]
      exact hKK _ _ _ W hA hS hK
  · obtain ⟨todo, tmps, bs, gs, md⟩ := s
    cases md with
    | ctl => simp [KS.now] at hn
    | ord ops rest => exact absurd rfl hl
    | drw n ops' listed cur sb =>
      cases cur with
      | none => simp [KS.now] at hn
      | some c =>
        obtain ⟨i, sole⟩ := c
        cases n with
        | zero => simp [KS.now] at hn
        | succ n =>
          simp only [KS.now, Option.map_eq_some_iff, Prod.mk.injEq] at hn
          obtain ⟨o, ho, rfl, rfl⟩ := hn
          have hsole : sole = false := by cases sole with | true => exact absurd rfl hl | false => rfl
          subst hsole
          intro hc hsel hD hp W hS
          simp only [chk, Bool.and_eq_true, List.contains_iff_mem] at hc
          have hne : Region.ready .any ops' listed ≠ [] := fun h0 => by rw [h0] at hc; simp at hc
          have hH : hold2 sb es W := hold2_of hE hS (hp hne)
          refine wpAnyL_take hD ho hload hsel hc.2 hc.1 (fun c a w h => by cases h.1) (v := v) ?_ hH ?_
          · exact hv.imp (fun h => ⟨h.1, fun W hW => h.2 W hW⟩) id
          · rw [put_at]
            exact hA rfl hsel (closed_set hD hc.1) (fun _ => hp hne) W hS
/-- An operation that yields a value and leaves the world, in whichever mode. -/
theorem AtM.value (hE : Ex w0 es) {s : KS} {op : Oper} {ops : Array Oper} {v : Value} (hn : s.now = some (op, ops))
    (hv : (Region.wanted op (yielded ops s.tmps) = true ∧ ∀ W, (execOp s.ev op).run P W = .ok (.value v) W) ∨ (Region.wanted op (yielded ops s.tmps) = false ∧ v = undef))
    (hA : AtM P f R w0 es (s.adv op v)) : AtM P f R w0 es s := by
  by_cases hl : s.loud = true
  · refine AtM.loud hE hn hl fun W hS hK i hi K hKK _ => ?_
    rcases hv with ⟨hw, hv⟩ | ⟨hw, rfl⟩
    · refine wpOp_of hi hw ?_
      show Oper.upon P op ⟨s.tmps, []⟩ K _ ((execOp s.ev op).run P W)
      rw [hv W]
      show K ((Act.mk s.tmps []).put op.dst v) W
      rw [put_at]
      exact hKK _ _ _ W hA hS hK
    · refine wpOp_not hi hw ?_
      rw [put_at]
      exact hKK _ _ _ W hA hS hK
  · obtain ⟨todo, tmps, bs, gs, md⟩ := s
    cases md with
    | ctl => simp [KS.now] at hn
    | ord ops rest => exact absurd rfl hl
    | drw n ops' listed cur sb =>
      cases cur with
      | none => simp [KS.now] at hn
      | some c =>
        obtain ⟨i, sole⟩ := c
        cases n with
        | zero => simp [KS.now] at hn
        | succ n =>
          simp only [KS.now, Option.map_eq_some_iff, Prod.mk.injEq] at hn
          obtain ⟨o, ho, rfl, rfl⟩ := hn
          have hsole : sole = false := by cases sole with | true => exact absurd rfl hl | false => rfl
          subst hsole
          intro hc hsel hD hp W hS
          simp only [chk, Bool.and_eq_true, List.contains_iff_mem] at hc
          have hne : Region.ready .any ops' listed ≠ [] := fun h0 => by rw [h0] at hc; simp at hc
          have hH : hold2 sb es W := hold2_of hE hS (hp hne)
          refine wpAnyL_takeP hD ho hsel hc.2 hc.1 (fun c a w h => by cases h.1) (v := v) ?_ hH ?_
          · exact hv
          · rw [put_at]
            exact hA rfl hsel (closed_set hD hc.1) (fun _ => hp hne) W hS
def oneRes (tmps : Array Value) : ResultVar → Sem Value
  | .tmp t => pure (tmps.getD t undef)
  | .cell a t => do loadVar t (← asAddr (tmps.getD a undef))
theorem resV_sound {bs : Blks} {gs : Bigs} {tmps : Array Value} {W : World} (hS : St w0 W bs gs) : ∀ (rs : List ResultVar) (ks : List Nat) {p q : Prop} {vs : List Value}, resV P bs tmps rs ks p = some (vs, q) → q →
    p ∧ (rs.mapM (oneRes tmps)).run P W = .ok vs W := by
  intro rs
  induction rs with
  | nil =>
    intro ks p q vs h hq
    simp only [resV, Option.some.injEq, Prod.mk.injEq] at h
    obtain ⟨rfl, rfl⟩ := h
    exact ⟨hq, rfl⟩
  | cons r rs ih =>
    intro ks p q vs h hq
    cases r with
    | tmp t =>
      simp only [resV, Option.map_eq_some_iff, Prod.mk.injEq] at h
      obtain ⟨⟨vs', q'⟩, h1, rfl, rfl⟩ := h
      obtain ⟨hp, hr⟩ := ih ks h1 hq
      refine ⟨hp, ?_⟩
      rw [List.mapM_cons, Sem.run_bind]
      show ((rs.mapM (oneRes tmps) >>= fun x => pure (tmps.getD t undef :: x)) : Sem (List Value)).run P W = _
      rw [Sem.run_bind, hr]
      rfl
    | cell a t =>
      cases ks with
      | nil => simp [resV] at h
      | cons k ks =>
        simp only [resV] at h
        split at h
        · rename_i b cs hb
          split at h
          · rename_i v q1 hx
            simp only [Option.map_eq_some_iff, Prod.mk.injEq] at h
            obtain ⟨⟨vs', q'⟩, h1, rfl, rfl⟩ := h
            obtain ⟨hp, hr⟩ := ih ks h1 hq
            have hrun := loadW_sound (W := W) hx hp.1 (fun i v hv => (hS.2.1 _ (List.mem_of_getElem? hb)).2.2.2 i v hv)
            refine ⟨hp.2, ?_⟩
            have h1 : (oneRes tmps (.cell a t)).run P W = .ok v W := by
              have ha : ∃ ad, tmps.getD a undef = .pointer (some ad) := by
                unfold loadW at hx
                split at hx
                · exact ⟨_, by assumption⟩
                · cases hx
              obtain ⟨ad, ha⟩ := ha
              rw [ha] at hrun
              show (asAddr (tmps.getD a undef) >>= fun x => loadVar t x).run P W = _
              rw [ha]
              exact hrun
            rw [List.mapM_cons, Sem.run_bind, h1]
            show ((rs.mapM (oneRes tmps) >>= fun x => pure (v :: x)) : Sem (List Value)).run P W = _
            rw [Sem.run_bind, hr]
            rfl
          · cases h
        · cases h
theorem results_eq (fn : Func) (tmps : Array Value) {W : World} {vs : List Value} (h : (fn.results.toList.mapM (oneRes tmps)).run P W = .ok vs W) : (results fn tmps).run P W = .ok (oneV vs) W := by
  unfold results
  have e : fn.results.mapM (oneRes tmps) = List.toArray <$> fn.results.toList.mapM (oneRes tmps) := Array.mapM_eq_mapM_toList ..
  show (fn.results.mapM (oneRes tmps) >>= fun vs => (pure (if h : vs.size = 1 then vs[0] else .tuple vs) : Sem Value)).run P W = _
  rw [e, Sem.run_bind, Sem.run_map, h]
  show (Result.ok _ W : Result Value) = _
  congr 1
  match vs with
  | [] => rfl
  | [v] => rfl
  | _ :: _ :: _ => rfl
theorem ctl_sound {tmps : Array Value} {k k' : List Item} {md : Md} {bs : Blks} {gs : Bigs} (h : ctl tmps k = some (k', md)) (hA : AtM P f R w0 es ⟨k', tmps, bs, gs, md⟩) : AtM P f R w0 es ⟨k, tmps, bs, gs, .ctl⟩ := by
  intro W hS
  unfold ctl at h
  split at h
  · obtain ⟨rfl, rfl⟩ := Prod.mk.inj (Option.some.inj h); exact At.step (fun b cs => step_skip) (hA W hS)
  · obtain ⟨rfl, rfl⟩ := Prod.mk.inj (Option.some.inj h); exact At.step (fun b cs => step_label) (hA W hS)
  · obtain ⟨rfl, rfl⟩ := Prod.mk.inj (Option.some.inj h); exact At.step (fun b cs => step_inBlock) (hA W hS)
  · obtain ⟨rfl, rfl⟩ := Prod.mk.inj (Option.some.inj h); exact At.step (fun b cs => step_inScope) (hA W hS)
  · obtain ⟨rfl, rfl⟩ := Prod.mk.inj (Option.some.inj h); exact At.step (fun b cs => step_seq) (hA W hS)
  · split at h
    · rename_i hc
      obtain ⟨rfl, rfl⟩ := Prod.mk.inj (Option.some.inj h)
      exact At.step (fun b cs => step_cond (t := true) hc) (hA W hS)
    · rename_i hc
      obtain ⟨rfl, rfl⟩ := Prod.mk.inj (Option.some.inj h)
      exact At.step (fun b cs => step_cond (t := false) hc) (hA W hS)
    · cases h
  · obtain ⟨rfl, rfl⟩ := Prod.mk.inj (Option.some.inj h); exact At.step (fun b cs => step_block) (hA W hS)
  · obtain ⟨rfl, rfl⟩ := Prod.mk.inj (Option.some.inj h); exact At.step (fun b cs => step_scope) (hA W hS)
  · obtain ⟨rfl, rfl⟩ := Prod.mk.inj (Option.some.inj h); exact At.step (fun b cs => step_loop) (hA W hS)
  · obtain ⟨rfl, rfl⟩ := Prod.mk.inj (Option.some.inj h); exact At.step (fun b cs => step_inLoop) (hA W hS)
  · obtain ⟨k1, h1, h2⟩ := Option.map_eq_some_iff.1 h
    obtain ⟨rfl, rfl⟩ := Prod.mk.inj h2
    exact At.step (fun b cs => step_exit h1) (hA W hS)
  · obtain ⟨k1, h1, h2⟩ := Option.map_eq_some_iff.1 h
    obtain ⟨rfl, rfl⟩ := Prod.mk.inj h2
    exact At.step (fun b cs => step_goto h1) (hA W hS)
  · obtain ⟨rfl, rfl⟩ := Prod.mk.inj (Option.some.inj h)
    exact At.leaf (wp_region (hA W hS))
  · cases h
theorem wanted_now (hE : Ex w0 es) {s : KS} {op : Oper} {ops : Array Oper} {v : Value} (hn : s.now = some (op, ops)) (hw : Region.wanted op (yielded ops s.tmps) = true) (hv : ∀ W, (execOp s.ev op).run P W = .ok (.value v) W)
    (hA : AtM P f R w0 es (s.adv op v)) : AtM P f R w0 es s := AtM.value hE hn (Or.inl ⟨hw, hv⟩) hA
theorem look_now (hE : Ex w0 es) {s : KS} {op : Oper} {ops : Array Oper} {v : Value} (hload : isLoad op = true) (hn : s.now = some (op, ops)) (hw : Region.wanted op (yielded ops s.tmps) = true) (hv : ∀ W, s.sees w0 es W → (execOp s.ev op).run P W = .ok (.value v) W)
    (hA : AtM P f R w0 es (s.adv op v)) : AtM P f R w0 es s := AtM.look hE hload hn (Or.inl ⟨hw, hv⟩) hA
theorem set_same {tmps : Array Value} {sl : Nat} {u : Value} (h : tmps[sl]? = some u) : tmps.setIfInBounds sl u = tmps := by
  obtain ⟨hl, he⟩ := Array.getElem?_eq_some_iff.1 h
  apply Array.ext (by simp)
  intro i h1 h2
  rw [Array.getElem_setIfInBounds (by simpa using h1)]
  split
  · rename_i e; subst e; exact he.symm
  · rfl
theorem load_now {s : KS} {op : Oper} {t : TypeId} {x : Operand} {W : World} {v : Value} (ho : op.op = .load t x) (h : (Instr.loadAt t (s.ev x)).run P W = .ok v W) : (execOp s.ev op).run P W = .ok (.value v) W := by
  unfold execOp
  simp only [ho]
  rw [Sem.run_bind, h]
  rfl
theorem insW_sound (hm : P.follows .mixedOrders = true) (hE : Ex w0 es) (i : Ins) (s : KS) {K : KS → Prop} (h : insW P w0 es i s K) (hK : ∀ s', K s' → AtM P f R w0 es s') : AtM P f R w0 es s := by
  cases i with
  | c =>
    obtain ⟨todo, tmps, bs, gs, md⟩ := s
    simp only [insW] at h
    split at h
    · split at h
      · rename_i k md' hc
        exact ctl_sound hc (hK _ h)
      · exact h.elim
    · intro W hS
      exact ⟨rfl, hK _ h W hS⟩
    · split at h
      · rename_i hr
        intro hc hsel hD hp W hS
        exact wpAnyL_done hr ⟨rfl, hK _ h W hS⟩ _
      · exact h.elim
    · exact h.elim
  | d X =>
    obtain ⟨todo, tmps, bs, gs, md⟩ := s
    simp only [insW] at h
    split at h
    · split at h
      · rename_i hsel
        intro W hS
        have hS' : St w0 W.drew bs gs := St.drew hS
        exact At.leaf (wp_region_L hm (hK _ h rfl hsel closed_start (fun _ => sub_blank X 0 _) W.drew hS'))
      · exact h.elim
    · exact h.elim
  | «at» i sole =>
    obtain ⟨todo, tmps, bs, gs, md⟩ := s
    simp only [insW] at h
    split at h
    · split at h
      · rename_i hc
        intro _ hsel hD hp W hS
        cases sole with
        | true =>
          simp only [if_true, decide_eq_true_eq] at hc
          exact wpAnyL_sole hc (hK _ h (by simp [chk, hc]) hsel hD hp W hS _ rfl)
        | false => exact hK _ h hc hsel hD hp W hS
      · exact h.elim
    · exact h.elim
  | setv sl v =>
    obtain ⟨todo, tmps, bs, gs, md⟩ := s
    simp only [insW] at h
    split at h
    · rename_i u hu
      obtain ⟨rfl, h⟩ := h
      have key : tmps.setIfInBounds sl u = tmps := set_same hu
      have := hK _ h
      rwa [key] at this
    · exact h.elim
  | setc k i v =>
    obtain ⟨todo, tmps, bs, gs, md⟩ := s
    simp only [insW] at h
    split at h
    · rename_i b cs hb
      split at h
      · rename_i u hu
        obtain ⟨rfl, h⟩ := h
        have h1 : cs.set i u = cs := by
          obtain ⟨hl, he⟩ := List.getElem?_eq_some_iff.1 hu
          rw [← he]; exact List.set_getElem_self hl
        have h2 : bs.set k (b, cs.set i u) = bs := by
          rw [h1]
          obtain ⟨hl, he⟩ := List.getElem?_eq_some_iff.1 hb
          rw [← he]; exact List.set_getElem_self hl
        have := hK _ h
        rwa [h2] at this
      · exact h.elim
    · exact h.elim
  | v =>
    simp only [insW] at h
    split at h
    · rename_i op ops hn
      split at h
      · rename_i v hw hx
        exact wanted_now hE hn hw (fun W => prun_sound _ hx) (hK _ h)
      · exact h.elim
    · exact h.elim
  | u =>
    simp only [insW] at h
    split at h
    · rename_i op ops hn
      split at h
      · rename_i hw
        exact AtM.value hE hn (Or.inr ⟨hw, rfl⟩) (hK _ h)
      · exact h.elim
    · exact h.elim
  | own k =>
    simp only [insW] at h
    split at h
    · rename_i op ops hn
      split at h
      · rename_i b cs t x hw hb ho
        split at h
        · rename_i v q hx
          exact look_now hE (by unfold isLoad; rw [ho]) hn hw (fun W hW => load_now ho (loadW_sound hx h.1 (fun i v hv => sees_blocks hW _ (List.mem_of_getElem? hb) i v hv))) (hK _ h.2)
        · exact h.elim
      · exact h.elim
    · exact h.elim
  | ext k =>
    simp only [insW] at h
    split at h
    · rename_i op ops hn
      split at h
      · rename_i b cs t x hw hb ho
        split at h
        · rename_i v q hx
          exact look_now hE (by unfold isLoad; rw [ho]) hn hw (fun W hW => load_now ho (loadW_sound hx h.1 (fun i v hv => sees_es hE hW _ (List.mem_of_getElem? hb) i v hv))) (hK _ h.2)
        · exact h.elim
      · exact h.elim
    · exact h.elim
  | put k =>
    simp only [insW] at h
    split at h
    · rename_i op ops hn hl
      split at h
      · rename_i b cs hw hb
        split at h
        · rename_i cs' q hx
          have hloud : s.loud = true := by
            obtain ⟨todo, tmps, bs, gs, md⟩ := s
            cases md with
            | ctl => simp [KS.now] at hn
            | ord ops rest => rfl
            | drw n ops listed cur sb =>
              cases cur with
              | none => simp [KS.may] at hl
              | some c =>
                obtain ⟨i, sole⟩ := c
                cases sole with
                | true => rfl
                | false => simp [KS.may] at hl
          refine AtM.loud hE hn hloud fun W hS _ i hi K _ hPP => ?_
          obtain ⟨W', hr, hS'⟩ := vrun_sound (P := P) (w0 := w0) (gs := s.gs) (fun he => List.isEmpty_iff.1 he) _ hx h.1 hS hb
          refine wpOp_of hi hw ?_
          show Oper.upon P op ⟨s.tmps, []⟩ K _ ((execOp s.ev op).run P W)
          rw [hr]
          show K ((Act.mk s.tmps []).put op.dst undef) W'
          rw [put_at]
          exact hPP _ k _ _ _ _ W' hb hl (hK _ h.2) hS'
        · exact h.elim
      · exact h.elim
    · exact h.elim
  | call v =>
    simp only [insW] at h
    split at h
    · rename_i op ops hn hl
      split at h
      · rename_i g args hw hx
        refine AtM.loud hE hn hl fun W hS hK' i hi K hKK _ => ?_
        refine wpOp_of hi hw ?_
        show Oper.upon P op ⟨s.tmps, []⟩ K _ ((execOp s.ev op).run P W)
        rw [prun_sound (W := W) _ hx]
        refine Calls.mono (h.1 W hS) ?_
        rintro e w' ⟨rfl, hb⟩
        show K ((Act.mk s.tmps []).put op.dst v) w'
        rw [put_at]
        exact hKK _ _ _ _ (hK _ h.2) (hS.call hb) hK'
      · exact h.elim
    · exact h.elim
  | eq b =>
    simp only [insW] at h
    split at h
    · rename_i op ops hn
      split at h
      · rename_i t x y yt hw ho
        split at h
        · rename_i xs ys u hx hy hg
          refine wanted_now hE hn hw (fun W => ?_) (hK _ h.2)
          unfold execOp
          simp only [ho]
          show ((eqGuard .eql t x y (s.ev x) (s.ev y) >>= fun _ => binOp .eql t (s.ev x) (s.ev y)) >>= fun v => (pure (.value v) : Sem Next)).run P W = _
          rw [Sem.run_bind, Sem.run_bind, prun_sound _ hg, hx, hy]
          show (((Op.equalIn 10000 t (.agg xs) (.agg ys) >>= fun r => pure (Value.bool r)) : Sem Value).run P W).andThen _ = _
          rw [Sem.run_bind, h.1 W]
          rfl
        · exact h.elim
      · rename_i t x y yt hw ho
        split at h
        · rename_i xs ys u hx hy hg
          refine wanted_now hE hn hw (fun W => ?_) (hK _ h.2)
          unfold execOp
          simp only [ho]
          show ((eqGuard .neq t x y (s.ev x) (s.ev y) >>= fun _ => binOp .neq t (s.ev x) (s.ev y)) >>= fun v => (pure (.value v) : Sem Next)).run P W = _
          rw [Sem.run_bind, Sem.run_bind, prun_sound _ hg, hx, hy]
          show (((Op.equalIn 10000 t (.agg xs) (.agg ys) >>= fun r => pure (Value.bool (!r))) : Sem Value).run P W).andThen _ = _
          rw [Sem.run_bind, h.1 W]
          rfl
        · exact h.elim
      · exact h.elim
    · exact h.elim
  | fact v =>
    simp only [insW] at h
    split at h
    · rename_i op ops hn
      split at h
      · rename_i hw
        exact wanted_now hE hn hw (fun W => h.1 W) (hK _ h.2)
      · exact h.elim
    · exact h.elim
theorem insL_sound (hm : P.follows .mixedOrders = true) (hE : Ex w0 es) : ∀ (l : List Ins) (s : KS) {K : KS → Prop}, insL P w0 es l s K → (∀ s', K s' → AtM P f R w0 es s') → AtM P f R w0 es s
  | [], s, _, h, hK => hK s h
  | i :: l, s, _, h, hK => insW_sound hm hE i s h fun s' h' => insL_sound hm hE l s' h' hK
theorem insW_todo (i : Ins) (hi : i.inReg = true) (s : KS) {K : KS → Prop} (h : insW P w0 es i s K) : insW P w0 es i s fun s' => s'.todo = s.todo ∧ K s' := by
  cases i with
  | c => cases hi
  | d X => cases hi
  | «at» i sole =>
    obtain ⟨todo, tmps, bs, gs, md⟩ := s
    simp only [insW] at h ⊢
    split at h
    · split at h
      · rename_i h2
        exact ⟨by first | rfl | trivial, h⟩
      · exact h.elim
    · exact h.elim
  | setv sl v =>
    simp only [insW] at h ⊢
    split at h
    · rename_i hu
      exact ⟨h.1, by first | rfl | trivial, h.2⟩
    · exact h.elim
  | setc k i v =>
    simp only [insW] at h ⊢
    split at h
    · split at h
      · exact ⟨h.1, by first | rfl | trivial, h.2⟩
      · exact h.elim
    · exact h.elim
  | v =>
    simp only [insW] at h ⊢
    split at h
    · rename_i op ops hn
      split at h
      · rename_i v hw hx
        exact ⟨by first | rfl | trivial, h⟩
      · exact h.elim
    · exact h.elim
  | u =>
    simp only [insW] at h ⊢
    split at h
    · rename_i op ops hn
      split at h
      · rename_i hw
        exact ⟨by first | rfl | trivial, h⟩
      · exact h.elim
    · exact h.elim
  | own k =>
    simp only [insW] at h ⊢
    split at h
    · rename_i op ops hn
      split at h
      · rename_i b cs t x hw hb ho
        split at h
        · rename_i hx
          exact ⟨h.1, by first | rfl | trivial, h.2⟩
        · exact h.elim
      · exact h.elim
    · exact h.elim
  | ext k =>
    simp only [insW] at h ⊢
    split at h
    · rename_i op ops hn
      split at h
      · rename_i b cs t x hw hb ho
        split at h
        · rename_i hx
          exact ⟨h.1, by first | rfl | trivial, h.2⟩
        · exact h.elim
      · exact h.elim
    · exact h.elim
  | put k =>
    simp only [insW] at h ⊢
    split at h
    · rename_i op ops hn hl
      split at h
      · rename_i b cs hw hb
        split at h
        · rename_i hx
          exact ⟨h.1, by first | rfl | trivial, h.2⟩
        · exact h.elim
      · exact h.elim
    · exact h.elim
  | call v =>
    simp only [insW] at h ⊢
    split at h
    · rename_i op ops hn hl
      split at h
      · rename_i g args hw hx
        exact ⟨h.1, by first | rfl | trivial, h.2⟩
      · exact h.elim
    · exact h.elim
  | eq b =>
    simp only [insW] at h ⊢
    split at h
    · rename_i op ops hn
      split at h
      · rename_i t x y yt hw ho
        split at h
        · rename_i xs ys u hx hy hg
          exact ⟨h.1, by first | rfl | trivial, h.2⟩
        · exact h.elim
      · rename_i t x y yt hw ho
        split at h
        · rename_i xs ys u hx hy hg
          exact ⟨h.1, by first | rfl | trivial, h.2⟩
        · exact h.elim
      · exact h.elim
    · exact h.elim
  | fact v =>
    simp only [insW] at h ⊢
    split at h
    · rename_i op ops hn
      split at h
      · rename_i hw
        exact ⟨h.1, by first | rfl | trivial, h.2⟩
      · exact h.elim
    · exact h.elim
theorem insL_todo (hm : P.follows .mixedOrders = true) (hE : Ex w0 es) : ∀ (l : List Ins) (s : KS) {K : KS → Prop}, l.all Ins.inReg = true → insL P w0 es l s K → (∀ s', s'.todo = s.todo → K s' → AtM P f R w0 es s') → AtM P f R w0 es s
  | [], s, _, _, h, hK => hK s rfl h
  | i :: l, s, _, ha, h, hK => by
    simp only [List.all_cons, Bool.and_eq_true] at ha
    refine insW_sound hm hE i s (insW_todo i ha.1 s h) fun s' h' => ?_
    exact insL_todo hm hE l s' ha.2 h'.2 fun s'' e k => hK s'' (e.trans h'.1) k
theorem runR_sound (hm : P.follows .mixedOrders = true) (hE : Ex w0 es) : ∀ (o : ROrc) (s : KS) {K : KS → Prop}, runR P w0 es o s K →
    (∀ s', s'.todo = s.todo → (∃ n ops listed sb, s'.md = .drw n ops listed none sb ∧ Region.ready .any ops listed = []) → K s' → AtM P f R w0 es s') → AtM P f R w0 es s := by
  intro o
  induction o with
  | done =>
    rintro ⟨todo, tmps, bs, gs, md⟩ K h hK
    simp only [runR] at h
    split at h
    · split at h
      · rename_i hr
        exact hK _ rfl ⟨_, _, _, _, rfl, hr⟩ h
      · exact h.elim
    · exact h.elim
  | s l o ih =>
    intro s K h hK
    simp only [runR] at h
    split at h
    · rename_i ha
      exact insL_todo hm hE l s ha h fun s' e h' => ih s' h' fun s'' e' hd k => hK s'' (e'.trans e) hd k
    · exact h.elim
  | split sl t e iht ihe =>
    rintro ⟨todo, tmps, bs, gs, md⟩ K h hK
    simp only [runR] at h
    split at h
    · rename_i B hB
      have key : ∀ u, tmps[sl]? = some u → tmps.setIfInBounds sl u = tmps := fun u hu => set_same hu
      cases B with
      | true => have := iht _ (h.1 rfl) (fun s' e => hK s' e); rwa [key _ hB] at this
      | false => have := ihe _ (h.2 rfl) (fun s' e => hK s' e); rwa [key _ hB] at this
    · exact h.elim
  | new k ih =>
    intro s K h hK
    simp only [runR] at h
    split at h
    · rename_i op ops hn hl
      split at h
      · rename_i cs t kk hw hx
        refine AtM.loud hE hn hl fun W hS hK' i hi K' hKK _ => ?_
        have h1 := h W.heap.size
        split at h1
        · rename_i v hv
          refine wpOp_of hi hw ?_
          show Oper.upon P op ⟨s.tmps, []⟩ K' _ ((execOp s.ev op).run P W)
          rw [nrun_sound _ hx hv]
          show K' ((Act.mk s.tmps []).put op.dst v) _
          rw [put_at]
          exact hKK _ _ _ _ (ih _ _ h1 fun s' e hd k => hK s' e hd k) (hS.layEnd cs t) (pre_more hK')
        · exact h1.elim
      · exact h.elim
    · exact h.elim
  | big z k ih =>
    intro s K h hK
    simp only [runR] at h
    split at h
    · rename_i op ops hn hl
      split at h
      · rename_i g args hw hx
        refine AtM.loud hE hn hl fun W hS hK' i hi K' hKK _ => ?_
        refine wpOp_of hi hw ?_
        show Oper.upon P op ⟨s.tmps, []⟩ K' _ ((execOp s.ev op).run P W)
        rw [prun_sound (W := W) _ hx]
        refine Calls.mono (h.1 W hS) ?_
        rintro e w' ⟨A, c, rfl, hr, hb⟩
        show K' ((Act.mk s.tmps []).put op.dst _) w'
        rw [put_at]
        exact hKK _ _ _ _ (ih A c _ (h.2 A c) fun s' e hd k => hK s' e hd k) ((hS.call hb).bigEnd hr) hK'
      · exact h.elim
    · exact h.elim
  | fork i j a b iha ihb =>
    rintro ⟨todo, tmps, bs, gs, md⟩ K h hK
    simp only [runR] at h
    split at h
    · split at h
      · rename_i hc
        simp only [decide_eq_true_eq] at hc
        intro _ hsel hD hp W hS
        refine ⟨fun h0 => (by rw [hc] at h0; cases h0), fun x hx => ?_⟩
        rw [hc] at hx
        rcases List.mem_cons.1 hx with rfl | hx
        · exact iha _ h.1 (fun s' e hd k => hK s' e hd k) (by simp [chk, hc]) hsel hD hp W hS _ rfl
        · rw [List.mem_singleton] at hx
          subst hx
          exact ihb _ h.2 (fun s' e hd k => hK s' e hd k) (by simp [chk, hc]) hsel hD hp W hS _ rfl
      · exact h.elim
    · exact h.elim
/-- **What a plan leaves is enough.** -/
theorem lite_AtM {x : Array Value × Blks × Bigs} {s : KS} (hmd : s.md = .ctl) (hl : lite x s) (h : AtM P f R w0 es ⟨s.todo, x.1, x.2.1, x.2.2, .ctl⟩) : AtM P f R w0 es s := by
  obtain ⟨todo, tmps, bs, gs, md⟩ := s
  dsimp only at hmd
  subst hmd
  obtain ⟨h1, ⟨t, h2⟩, h3⟩ := hl
  dsimp only at h1 h2 h3
  subst h1 h2
  intro W hS
  refine h W (hS.less ?_ h3)
  exact List.sublist_append_left _ _
theorem runW_sound (hm : P.follows .mixedOrders = true) (hE : Ex w0 es) : ∀ (o : Orc) (Ls : List (KS → Prop)) (s : KS), (∀ L ∈ Ls, ∀ s, L s → AtM P f R w0 es s) → runW P f R w0 es o Ls s → AtM P f R w0 es s := by
  intro o
  induction o with
  | fin => intro Ls s hL h; exact h
  | s l o ih => intro Ls s hL h; exact insL_sound hm hE l s h fun s' h' => ih Ls s' hL h'
  | split sl t e iht ihe =>
    rintro Ls ⟨todo, tmps, bs, gs, md⟩ hL h
    simp only [runW] at h
    split at h
    · rename_i B hB
      have key : ∀ u, tmps[sl]? = some u → tmps.setIfInBounds sl u = tmps := fun u hu => set_same hu
      cases B with
      | true => have := iht Ls _ hL (h.1 rfl); rwa [key _ hB] at this
      | false => have := ihe Ls _ hL (h.2 rfl); rwa [key _ hB] at this
    · exact h.elim
  | gen sl k ih =>
    rintro Ls ⟨todo, tmps, bs, gs, md⟩ hL h
    simp only [runW] at h
    split at h
    · rename_i κ n hu
      have key : tmps.setIfInBounds sl (.int κ n) = tmps := set_same hu
      have := ih n Ls _ hL (h n rfl)
      rwa [key] at this
    · exact h.elim
  | new k ih =>
    intro Ls s hL h
    simp only [runW] at h
    split at h
    · rename_i op ops hn hl
      split at h
      · rename_i cs t kk hw hx
        refine AtM.loud hE hn hl fun W hS hK i hi K hKK _ => ?_
        have h1 := h W.heap.size
        split at h1
        · rename_i v hv
          refine wpOp_of hi hw ?_
          show Oper.upon P op ⟨s.tmps, []⟩ K _ ((execOp s.ev op).run P W)
          rw [nrun_sound _ hx hv]
          show K ((Act.mk s.tmps []).put op.dst v) _
          rw [put_at]
          exact hKK _ _ _ _ (ih _ Ls _ hL h1) (hS.layEnd cs t) (pre_more hK)
        · exact h1.elim
      · exact h.elim
    · exact h.elim
  | big z k ih =>
    intro Ls s hL h
    simp only [runW] at h
    split at h
    · rename_i op ops hn hl
      split at h
      · rename_i g args hw hx
        refine AtM.loud hE hn hl fun W hS hK i hi K hKK _ => ?_
        refine wpOp_of hi hw ?_
        show Oper.upon P op ⟨s.tmps, []⟩ K _ ((execOp s.ev op).run P W)
        rw [prun_sound (W := W) _ hx]
        refine Calls.mono (h.1 W hS) ?_
        rintro e w' ⟨A, c, rfl, hr, hb⟩
        show K ((Act.mk s.tmps []).put op.dst _) w'
        rw [put_at]
        exact hKK _ _ _ _ (ih A c Ls _ hL (h.2 A c)) ((hS.call hb).bigEnd hr) hK
      · exact h.elim
    · exact h.elim
  | meet S t o ih =>
    rintro Ls s hL h
    simp only [runW] at h
    refine runR_sound hm hE t s h.1 ?_
    rintro ⟨todo, tmps, bs, gs, md⟩ e ⟨n, ops, listed, sb, hmd, hr⟩ ⟨ρ, α, h1, h2, h3⟩
    dsimp only at e hmd h1 h2 h3
    subst hmd h1 h2 h3 e
    intro _ _ _ _ W hS
    have hA : At P f R s.todo ⟨(S ρ α).1, []⟩ W := ih ρ α Ls _ hL (h.2 ρ α) W hS
    cases n with
    | zero => exact wpAnyL_done hr ⟨rfl, hA⟩ _
    | succ n => exact wpAnyL_done hr ⟨rfl, hA⟩ _
  | loop I μ S o ih =>
    rintro Ls ⟨todo, tmps, bs, gs, md⟩ hL h
    simp only [runW] at h
    split at h
    · obtain ⟨⟨k, ξ, u, α, hI, hl⟩, hr⟩ := h
      have key : ∀ n k ξ u α, μ k ξ = n → I k ξ → AtM P f R w0 es ⟨todo, (S k ξ u α).1, (S k ξ u α).2.1, (S k ξ u α).2.2, .ctl⟩ := by
        intro n
        induction n using Nat.strongRecOn with
        | _ n ihn =>
          intro k ξ u α hn hI
          refine ih k ξ u α _ _ ?_ (hr k ξ u α hI)
          intro L hLm s hLs
          rcases List.mem_cons.1 hLm with rfl | hLm
          · obtain ⟨todo', tmps', bs', gs', md'⟩ := s
            dsimp only at hLs
            split at hLs
            · rename_i hmd
              obtain ⟨rfl, k', ξ', u', α', hI', hlt, hl'⟩ := hLs
              exact lite_AtM rfl hl' (ihn _ (hn ▸ hlt) k' ξ' u' α' rfl hI')
            · exact hLs.elim
          · exact hL L hLm s hLs
      exact lite_AtM rfl hl (key _ k ξ u α rfl hI)
    · exact h.elim
  | cut T I S t o iht iho =>
    intro Ls s hL h
    simp only [runW] at h
    refine iht _ s ?_ h.1
    intro L hLm s' hLs
    rcases List.mem_cons.1 hLm with rfl | hLm
    · obtain ⟨todo', tmps', bs', gs', md'⟩ := s'
      dsimp only at hLs
      split at hLs
      · obtain ⟨rfl, ξ, u, α, hI, hl⟩ := hLs
        exact lite_AtM rfl hl (iho ξ u α Ls _ hL (h.2 ξ u α hI))
      · exact hLs.elim
    · exact hL L hLm s' hLs
  | again d =>
    intro Ls s hL h
    simp only [runW] at h
    split at h
    · rename_i L hd
      exact hL L (List.mem_of_getElem? hd) s h
    · exact h.elim
  | ret ks =>
    rintro Ls ⟨todo, tmps, bs, gs, md⟩ hL h
    simp only [runW] at h
    split at h
    · rename_i fn hf
      intro W hS
      split at h
      · split at h
        · rename_i k vs q hr
          exact At.ret hf rfl (results_eq fn tmps (resV_sound hS _ _ hr h.1).2) (h.2 W hS)
        · exact h.elim
      · split at h
        · rename_i vs q hr
          exact At.end hf rfl (results_eq fn tmps (resV_sound hS _ _ hr h.1).2) (h.2 W hS)
        · exact h.elim
      · exact h.elim
    · exact h.elim
/-- A function's contract out of a plan and what it leaves. -/
theorem calls_of_plan (o : Orc) (hm : P.follows .mixedOrders = true) {fn : Func} {c : Code} {args tmps : Array Value} {w : World} {gs : Bigs} (h0 : St w w [] gs) (hE : Ex w es) (hf : P.funcs[f]? = some fn) (hb : fn.body = some c)
    (ht : args ++ Array.replicate (fn.ntmps - args.size) undef = tmps) (h : runW P f R w es o [] ⟨[.code c], tmps, [], gs, .ctl⟩) : Calls P f args w R :=
  calls_of_At hf hb (by rw [ht]; exact runW_sound hm hE o [] _ (fun _ hL => by cases hL) h w h0)
end
end Go.Proofs.YtnmacidlgadmgaaDoor
