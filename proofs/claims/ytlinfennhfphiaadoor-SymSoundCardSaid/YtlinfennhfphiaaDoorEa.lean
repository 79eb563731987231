/- The walk as one reckoning, first part: what an operation does to the call's own blocks, reckoned by the kernel; a region in any order, with a store at its end. -/
import Derived.Test.YtlinfennhfphiaaDoorSt
import Derived.Test.YtlinfennhfphiaaDoorSz
import Derived.OrdersHeld
import Derived.Scope
import Derived.Deep.MidRow
namespace Go.Proofs.YtlinfennhfphiaaDoor
open Go.RowKit

/-! ## An operation that only looks -/
/-- What an operation yields that only looks, and looks at one block alone (number b, cells cs). -/
def xrun (P : Program) (b : Nat) {α : Type} : Sem α → List Value → Prop → Option (α × Prop)
  | .pure a, _, p => some (a, p)
  | .load _ ⟨bl, o, none⟩ k, cs, p =>
    match cs[o]? with
    | some v => xrun P b (k v) cs (bl = b ∧ p)
    | none => none
  | .program k, cs, p => xrun P b (k P) cs p
  | .mark _ k, cs, p => xrun P b k cs p
  | _, _, _ => none
theorem xrun_imp {P : Program} {b : Nat} {α : Type} (e : Sem α) : ∀ {cs : List Value} {p q : Prop} {x : α}, xrun P b e cs p = some (x, q) → q → p := by
  induction e with
  | pure a => intro cs p q x h hq; simp only [xrun, Option.some.injEq, Prod.mk.injEq] at h; exact h.2 ▸ hq
  | load m a k ih =>
    intro cs p q x h hq
    obtain ⟨bl, o, sp⟩ := a
    cases sp with
    | some _ => simp [xrun] at h
    | none =>
      simp only [xrun] at h
      split at h
      · exact (ih _ h hq).2
      · cases h
  | program k ih => intro cs p q x h hq; simp only [xrun] at h; exact ih _ h hq
  | mark m k ih => intro cs p q x h hq; simp only [xrun] at h; exact ih h hq
  | _ => intro cs p q x h; simp [xrun] at h
theorem xrun_sound {P : Program} {b : Nat} {α : Type} {W : World} (e : Sem α) : ∀ {cs : List Value} {p q : Prop} {x : α}, xrun P b e cs p = some (x, q) → q →
    (∀ i v, cs[i]? = some v → W.cell? ⟨b, i, none⟩ = some v) → e.run P W = .ok x W := by
  induction e with
  | pure a => intro cs p q x h _ _; simp only [xrun, Option.some.injEq, Prod.mk.injEq] at h; rw [← h.1]; rfl
  | load m a k ih =>
    intro cs p q x h hq hc
    obtain ⟨bl, o, sp⟩ := a
    cases sp with
    | some _ => simp [xrun] at h
    | none =>
      simp only [xrun] at h
      split at h
      · rename_i v hv
        obtain rfl := (xrun_imp _ h hq).1
        simp only [Sem.run, hc o v hv]
        exact ih _ h hq hc
      · cases h
  | program k ih => intro cs p q x h hq hc; simp only [xrun] at h; simp only [Sem.run]; exact ih _ h hq hc
  | mark m k ih => intro cs p q x h hq hc; simp only [xrun] at h; simp only [Sem.run]; exact ih h hq hc
  | _ => intro cs p q x h; simp [xrun] at h

/-- What an operation yields that looks at no memory. -/
def prun (P : Program) {α : Type} : Sem α → Option α
  | .pure a => some a
  | .program k => prun P (k P)
  | .mark _ k => prun P k
  | _ => none
theorem prun_sound {P : Program} {α : Type} {W : World} (e : Sem α) : ∀ {x : α}, prun P e = some x → e.run P W = .ok x W := by
  induction e with
  | pure a => intro x h; simp only [prun, Option.some.injEq] at h; rw [← h]; rfl
  | program k ih => intro x h; simp only [prun] at h; simp only [Sem.run]; exact ih _ h
  | mark m k ih => intro x h; simp only [prun] at h; simp only [Sem.run]; exact ih h
  | _ => intro x h; simp [prun] at h
/-- A load out of block b, of a whole variable. -/
def descRows : TypeDesc → Bool
  | .struct _ | .array _ _ => true
  | _ => false
def loadW (P : Program) (b : Nat) (cs : List Value) (t : TypeId) : Value → Option (Value × Prop)
  | .pointer (some ⟨bl, off, none⟩) =>
    match (P.underlying t).map descRows, (P.info? t).map (·.size) with
    | some true, some n => if off + n ≤ cs.length then some (.agg ((cs.drop off).take n).toArray, bl = b) else none
    | some false, some _ => (cs[off]?).map (·, bl = b)
    | _, _ => none
  | _ => none
theorem loadW_sound {P : Program} {b : Nat} {cs : List Value} {t : TypeId} {a v : Value} {q : Prop} {W : World} (h : loadW P b cs t a = some (v, q)) (hq : q) (hc : ∀ i v, cs[i]? = some v → W.cell? ⟨b, i, none⟩ = some v) :
    (Instr.loadAt t a).run P W = .ok v W := by
  unfold loadW at h
  split at h
  · rename_i bl off
    show (loadVar t ⟨bl, off, none⟩).run P W = _
    split at h
    · rename_i n hd hn
      split at h
      · rename_i hle
        obtain ⟨rfl, rfl⟩ := Prod.mk.inj (Option.some.inj h)
        obtain rfl : bl = b := hq
        have hr : W.rangeAt bl off ((cs.drop off).take n) := by
          intro j u hu
          rw [List.getElem?_take] at hu
          split at hu
          · rw [List.getElem?_drop] at hu; exact hc _ _ hu
          · cases hu
        have hlen : ((cs.drop off).take n).length = n := by rw [List.length_take, List.length_drop]; omega
        cases hu : P.underlying t with
        | none => rw [hu] at hd; cases hd
        | some d =>
          rw [hu] at hd
          have h1 : descRows d = true := Option.some.inj hd
          cases d with
          | struct f => exact run_loadVar_mid W bl off t _ _ hr hu rfl (by rw [hn, hlen])
          | array m e => exact run_loadVar_mid W bl off t _ _ hr hu rfl (by rw [hn, hlen])
          | _ => cases h1
      · cases h
    · rename_i hd hn
      obtain ⟨v', hv', h2⟩ := Option.map_eq_some_iff.1 h
      obtain ⟨rfl, rfl⟩ := Prod.mk.inj h2
      obtain rfl : bl = b := hq
      have hcell := hc _ _ hv'
      cases hu : P.underlying t with
      | none => rw [hu] at hd; cases hd
      | some d =>
        rw [hu] at hd
        have h1 : descRows d = false := Option.some.inj hd
        have hagg : (isAgg t).run P W = .ok false W := by
          unfold isAgg
          rw [Sem.run_bind, run_underlying hu]
          cases d <;> first | rfl | cases h1
        unfold loadVar
        rw [Sem.run_bind, hagg]
        show (load ⟨bl, off, none⟩).run P W = _
        rw [run_load, hcell]
    · cases h
  · cases h

/-! ## A store into one of the call's own blocks -/
def vrun (P : Program) (b : Nat) (dz : Bool) {α : Type} : Sem α → List Value → Prop → Option (α × List Value × Prop)
  | .pure a, cs, p => some (a, cs, p)
  | .load _ ⟨bl, o, none⟩ k, cs, p =>
    match cs[o]? with
    | some v => vrun P b dz (k v) cs (bl = b ∧ p)
    | none => none
  | .store _ ⟨bl, o, none⟩ v k, cs, p =>
    match v.oneCell', cs with
    | true, c0 :: cr => if (dz || digitless c0) && decide (o < (c0 :: cr).length) then vrun P b dz k ((c0 :: cr).set o v) (bl = b ∧ p) else none
    | _, _ => none
  | .program k, cs, p => vrun P b dz (k P) cs p
  | .mark _ k, cs, p => vrun P b dz k cs p
  | _, _, _ => none
theorem vrun_imp {P : Program} {b : Nat} {dz : Bool} {α : Type} (e : Sem α) : ∀ {cs cs' : List Value} {p q : Prop} {x : α}, vrun P b dz e cs p = some (x, cs', q) → q → p := by
  induction e with
  | pure a => intro cs cs' p q x h hq; simp only [vrun, Option.some.injEq, Prod.mk.injEq] at h; exact h.2.2 ▸ hq
  | load m a k ih =>
    intro cs cs' p q x h hq
    obtain ⟨bl, o, sp⟩ := a
    cases sp with
    | some _ => simp [vrun] at h
    | none =>
      simp only [vrun] at h
      split at h
      · exact (ih _ h hq).2
      · cases h
  | store m a v k ih =>
    intro cs cs' p q x h hq
    obtain ⟨bl, o, sp⟩ := a
    cases sp with
    | some _ => simp [vrun] at h
    | none =>
      simp only [vrun] at h
      split at h
      · split at h
        · exact (ih h hq).2
        · cases h
      · cases h
  | program k ih => intro cs cs' p q x h hq; simp only [vrun] at h; exact ih _ h hq
  | mark m k ih => intro cs cs' p q x h hq; simp only [vrun] at h; exact ih h hq
  | _ => intro cs cs' p q x h; simp [vrun] at h
theorem oneCell_run {P : Program} {α : Type} {m : Mode} {a : Addr} {v : Value} {k : Sem α} {W : World} {c : Value} (h1 : v.oneCell' = true) (hc : W.cell? a = some c) (hf : W.frozen? a = false) :
    (Sem.store m a v k).run P W = k.run P (W.setCell a v) := by
  cases v <;> simp_all [Sem.run, Value.oneCell']
theorem vrun_sound {P : Program} {b : Nat} {dz : Bool} {α : Type} {w0 : World} {gs : Bigs} (hdz : dz = true → gs = []) (e : Sem α) : ∀ {W : World} {bs : Blks} {k : Nat} {cs cs' : List Value} {p q : Prop} {x : α},
    vrun P b dz e cs p = some (x, cs', q) → q → St w0 W bs gs → bs[k]? = some (b, cs) → ∃ W', e.run P W = .ok x W' ∧ St w0 W' (bs.set k (b, cs')) gs := by
  induction e with
  | pure a =>
    intro W bs k cs cs' p q x h _ hS hk
    simp only [vrun, Option.some.injEq, Prod.mk.injEq] at h
    obtain ⟨rfl, rfl, _⟩ := h
    refine ⟨W, rfl, ?_⟩
    obtain ⟨hkl, hv⟩ := List.getElem?_eq_some_iff.1 hk
    rw [← hv, List.set_getElem_self hkl]
    exact hS
  | load m a kk ih =>
    intro W bs k cs cs' p q x h hq hS hk
    obtain ⟨bl, o, sp⟩ := a
    cases sp with
    | some _ => simp [vrun] at h
    | none =>
      simp only [vrun] at h
      split at h
      · rename_i v hv
        obtain rfl := (vrun_imp _ h hq).1
        have hc := (hS.2.1 _ (List.mem_of_getElem? hk)).2.2.2 o v hv
        simp only [Sem.run, hc]
        exact ih _ h hq hS hk
      · cases h
  | store m a v kk ih =>
    intro W bs k cs cs' p q x h hq hS hk
    obtain ⟨bl, o, sp⟩ := a
    cases sp with
    | some _ => simp [vrun] at h
    | none =>
      simp only [vrun] at h
      split at h
      · rename_i c0 cr h1
        split at h
        · rename_i hcond
          simp only [Bool.and_eq_true, Bool.or_eq_true, decide_eq_true_eq] at hcond
          obtain rfl := (vrun_imp _ h hq).1
          obtain ⟨_, _, hfz, hcs⟩ := hS.2.1 _ (List.mem_of_getElem? hk)
          have hc := hcs o _ (List.getElem?_eq_getElem hcond.2)
          rw [oneCell_run h1 hc (hfz o)]
          have hS' := St.set hS k o hk hcond.2 (hcond.1.imp hdz id) v
          have hkl : k < bs.length := (List.getElem?_eq_some_iff.1 hk).1
          obtain ⟨W', hr, hS2⟩ := ih h hq hS' (by rw [List.getElem?_set, if_pos rfl, if_pos hkl])
          exact ⟨W', hr, by rw [List.set_set] at hS2; exact hS2⟩
        · cases h
      · cases h
  | program kk ih => intro W bs k cs cs' p q x h hq hS hk; simp only [vrun] at h; simp only [Sem.run]; exact ih _ h hq hS hk
  | mark m kk ih => intro W bs k cs cs' p q x h hq hS hk; simp only [vrun] at h; simp only [Sem.run]; exact ih h hq hS hk
  | _ => intro W bs k cs cs' p q x h; simp [vrun] at h

/-! ## An operation that makes one block -/
def nrun (P : Program) {α : Type} : Sem α → Option (List Value × TypeId × (Nat → Option α))
  | .new (.cells c t (0, 0)) k => some (c.toList, t, fun r => prun P (k r))
  | .program k => nrun P (k P)
  | .mark _ k => nrun P k
  | _ => none
theorem nrun_sound {P : Program} {α : Type} {W : World} (e : Sem α) : ∀ {cs : List Value} {t : TypeId} {kk : Nat → Option α} {x : α}, nrun P e = some (cs, t, kk) → kk W.heap.size = some x →
    e.run P W = .ok x (W.alloc (.cells cs.toArray t)) := by
  induction e with
  | new o k ih =>
    intro cs t kk x h hk
    match o, h with
    | .cells c t' (0, 0), h =>
      simp only [nrun, Option.some.injEq, Prod.mk.injEq] at h
      obtain ⟨rfl, rfl, rfl⟩ := h
      have := prun_sound (W := W.alloc (.cells c t')) _ hk
      simp only [Sem.run, Array.toArray_toList]
      exact this
  | program k ih => intro cs t kk x h hk; simp only [nrun] at h; simp only [Sem.run]; exact ih _ h hk
  | mark m k ih => intro cs t kk x h hk; simp only [nrun] at h; simp only [Sem.run]; exact ih h hk
  | _ => intro cs t kk x h; simp [nrun] at h
theorem St.end {w0 W : World} {x : Nat × List Value} {bs : Blks} {gs : Bigs} (h : St w0 W (x :: bs) gs) : St w0 W (bs ++ [x]) gs :=
  ⟨h.1, fun y hy => h.2.1 y (by simp only [List.mem_append, List.mem_singleton] at hy; simp only [List.mem_cons]; exact hy.symm), by
    have := h.2.2.1
    rw [List.map_append, List.map_cons, List.map_nil]
    exact (List.perm_append_singleton _ _).nodup_iff.2 this, h.2.2.2⟩
theorem St.layEnd {w0 W : World} {bs : Blks} {gs : Bigs} (h : St w0 W bs gs) (vs : List Value) (t : TypeId) : St w0 (W.alloc (.cells vs.toArray t)) (bs ++ [(W.heap.size, vs)]) gs := (h.lay vs t).end
theorem St.bigEnd {w0 W : World} {bs : Blks} {gs : Bigs} (h : St w0 W bs gs) {A : Option Addr} {c : Nat} {z : Int} (hr : RB W A c z) : St w0 W bs (gs ++ [(A, c, z)]) :=
  ⟨h.1, h.2.1, h.2.2.1, fun g hg => by
    rcases List.mem_append.1 hg with hg | hg
    · exact h.2.2.2 g hg
    · rw [List.mem_singleton.1 hg]; exact hr⟩

/-! ## A region in any order, the last operation free to write what was looked at -/
section
variable {P : Program} {ops : Array Oper} {Q : Exit → Act → World → Prop} {S : World → Prop}
def waits (ops : Array Oper) (y x : Nat) : Bool := ((ops[y]?).map fun o => o.after.any fun e => Region.binds .any e && e.on == x).getD false
/-- Does it look at memory? -/
def isLoad (o : Oper) : Bool :=
  match o.op with
  | .load .. => true
  | _ => false
/-- The operations from which j is reached: those that come ahead of it. -/
def back (ops : Array Oper) : List Nat → Array Bool → Array Bool
  | [], r => r
  | y :: ys, r => back ops ys (if r.getD y false then ((ops[y]?).map fun o => o.after.toList.foldl (fun s e => if Region.binds .any e then s.setIfInBounds e.on true else s) r).getD r else r)
def ahead' (ops : Array Oper) (j : Nat) : Array Bool := back ops (List.range (j + 1)).reverse ((Array.replicate ops.size false).setIfInBounds j true)
/-- All loads come ahead of j or wait for it. -/
def sinkOnly (ops : Array Oper) (j : Nat) : Bool :=
  let r := ahead' ops j
  (List.range ops.size).all fun x => x == j || r.getD x false || waits ops x j || !((ops[x]?).map isLoad).getD false
def closed (ops : Array Oper) (listed : Array Bool) : Prop :=
  ∀ y o, ops[y]? = some o → listed.getD y true = true → ∀ e ∈ o.after, Region.binds .any e = true → listed.getD e.on false = true
theorem unl {listed : Array Bool} {x : Nat} (h : listed.getD x true = false) (h' : listed.getD x false = true) : False := by
  rcases Nat.lt_or_ge x listed.size with k | k
  · simp [k] at h h'; rw [h] at h'; cases h'
  · simp [Array.getElem?_eq_none k] at h
theorem waits_edge {y x : Nat} (h : waits ops y x = true) : ∃ o, ops[y]? = some o ∧ ∃ e ∈ o.after, Region.binds .any e = true ∧ e.on = x := by
  unfold waits at h
  cases ho : ops[y]? with
  | none => rw [ho] at h; simp at h
  | some o =>
    rw [ho] at h
    simp only [Option.map_some, Option.getD_some] at h
    obtain ⟨e, he, h4⟩ := Array.any_eq_true'.1 h
    simp only [Bool.and_eq_true, beq_iff_eq] at h4
    exact ⟨o, rfl, e, he, h4.1, h4.2⟩
theorem back_ok {listed : Array Bool} (hD : closed ops listed) {j : Nat} (hj : j ∈ Region.ready .any ops listed) : ∀ (ys : List Nat) (r : Array Bool), (∀ x, r.getD x false = true → x = j ∨ listed.getD x false = true) → ∀ x, (back ops ys r).getD x false = true → x = j ∨ listed.getD x false = true := by
  obtain ⟨_, oj, hoj, hall⟩ := mem_ready.1 hj
  intro ys
  induction ys with
  | nil => intro r h; exact h
  | cons y ys ih =>
    intro r h
    refine ih _ ?_
    split
    · rename_i hy
      cases ho : ops[y]? with
      | none => exact h
      | some o =>
        simp only [Option.map_some, Option.getD_some]
        have hpre : ∀ e ∈ o.after, Region.binds .any e = true → listed.getD e.on false = true := by
          rcases h y hy with rfl | hl
          · rw [hoj] at ho
            obtain rfl := Option.some.inj ho
            exact hall
          · intro e he hb
            refine hD y o ho ?_ e he hb
            rcases Nat.lt_or_ge y listed.size with k | k
            · simp [k] at hl ⊢; exact hl
            · simp [Array.getElem?_eq_none k] at hl
        have key : ∀ (l : List Edge) (s : Array Bool), (∀ e ∈ l, Region.binds .any e = true → listed.getD e.on false = true) → (∀ x, s.getD x false = true → x = j ∨ listed.getD x false = true) →
            ∀ x, (l.foldl (fun s e => if Region.binds .any e then s.setIfInBounds e.on true else s) s).getD x false = true → x = j ∨ listed.getD x false = true := by
          intro l
          induction l with
          | nil => intro s _ hs; exact hs
          | cons e l ihl =>
            intro s hl hs
            simp only [List.foldl_cons]
            refine ihl _ (fun e' he' => hl e' (List.mem_cons_of_mem _ he')) ?_
            intro x hx
            split at hx
            · rename_i hb
              by_cases hex : e.on = x
              · subst hex; exact Or.inr (hl e (List.mem_cons_self ..) hb)
              · rw [getD_set_ne false hex] at hx; exact hs x hx
            · exact hs x hx
        exact key o.after.toList r (fun e he => hpre e (Array.mem_toList_iff.1 he)) h
    · exact h
theorem sinkOnly_last {listed : Array Bool} (hD : closed ops listed) {j i : Nat} (hs : sinkOnly ops j = true) (hj : j ∈ Region.ready .any ops listed) (hi : i ∈ Region.ready .any ops listed) {oi : Oper} (hoi : ops[i]? = some oi) (hl : isLoad oi = true) : j = i := by
  obtain ⟨hiun, oi', hoi', hall⟩ := mem_ready.1 hi
  rw [hoi] at hoi'
  obtain rfl := Option.some.inj hoi'
  have h1 := List.all_eq_true.1 hs i (List.mem_range.2 (Array.getElem?_eq_some_iff.1 hoi).1)
  simp only [Bool.or_eq_true, beq_iff_eq, hoi, Option.map_some, Option.getD_some, hl, Bool.not_true, Bool.false_eq_true, or_false] at h1
  rcases h1 with (h1 | h1) | h1
  · exact h1.symm
  · have h2 := back_ok hD hj _ _ (fun x hx => ?_) i h1
    · rcases h2 with h2 | h2
      · exact h2.symm
      · exact (unl hiun h2).elim
    · by_cases e : j = x
      · exact Or.inl e.symm
      · rw [getD_set_ne false e] at hx
        rcases Nat.lt_or_ge x ops.size with k | k
        · simp [k] at hx
        · simp [k] at hx
  · obtain ⟨o, ho, e, he, hb, hon⟩ := waits_edge h1
    rw [hoi] at ho
    obtain rfl := Option.some.inj ho
    have := hall e he hb
    rw [hon] at this
    exact (unl (mem_ready.1 hj).1 this).elim
theorem closed_set {listed : Array Bool} (hD : closed ops listed) {i : Nat} (hi : i ∈ Region.ready .any ops listed) : closed ops (listed.setIfInBounds i true) := by
  intro y o hy hl e he hb
  by_cases h : i = y
  · subst h
    obtain ⟨_, oi, hoi, hall⟩ := mem_ready.1 hi
    rw [hoi] at hy
    obtain rfl := Option.some.inj hy
    exact getD_set_true (hall e he hb)
  · rw [getD_set_ne true h] at hl
    exact getD_set_true (hD y o hy hl e he hb)
theorem closed_start : closed ops (Array.replicate ops.size false) := by
  intro y o hy hl
  have hlt : y < ops.size := (Array.getElem?_eq_some_iff.1 hy).1
  simp [hlt] at hl
def wpAnyL (P : Program) (ops : Array Oper) (Q : Exit → Act → World → Prop) : Nat → (World → Prop) → Array Bool → Act → World → Prop
  | 0, _, listed, a, w => Region.ready .any ops listed = [] ∧ Q .normal a w
  | fuel + 1, S, listed, a, w =>
    (Region.ready .any ops listed = [] → Q .normal a w) ∧
    ∀ i ∈ Region.ready .any ops listed, wpOp P ops Q i (fun a' w' => ∃ S' : World → Prop, (sinkOnly ops i = false → S' = S) ∧ S' w' ∧ wpAnyL P ops Q fuel S' (listed.setIfInBounds i true) a' w') a w
theorem wpAny_of_L : ∀ (fuel : Nat) (S : World → Prop) (listed : Array Bool) (a : Act) (w : World), wpAnyL P ops Q fuel S listed a w → wpAny P .any ops Q fuel listed a w
  | 0, _, _, _, _, h => h
  | fuel + 1, _, _, _, _, h => ⟨h.1, fun i hi => wpOp_mono (fun a' w' ⟨S', _, _, h'⟩ => wpAny_of_L fuel S' _ a' w' h') (h.2 i hi)⟩
theorem wpAnyL_first {i : Nat} {oi : Oper} {v : Value} (hi : ops[i]? = some oi) (hload : isLoad oi = true) (hsel : ∀ (j : Nat) (o : Oper) cs b, ops[j]? = some o → o.op ≠ .select cs b)
    (hQ : ∀ c a w, Q (.panic c) (a.put oi.dst v) w → Q (.panic c) a w) :
    ∀ (fuel : Nat) (listed : Array Bool) (a : Act) (w : World), closed ops listed →
      (∀ j oj, ops[j]? = some oj → j ≠ i → listed.getD j true = false → (∀ e ∈ oj.after, Region.binds .any e = true → e.on ≠ i) → oi.apart ops oj = true) →
      i ∈ Region.ready .any ops listed → YieldsIf P ops S oi v a → S w →
      wpAnyL P ops Q fuel S (listed.setIfInBounds i true) (a.put oi.dst v) w → wpAnyL P ops Q (fuel + 1) S listed a w := by
  intro fuel
  induction fuel with
  | zero =>
    intro listed a w _ _ hr hy hS H
    refine ⟨fun h => (by rw [h] at hr; cases hr), fun j hj => ?_⟩
    by_cases hji : j = i
    · subst hji; exact hy.wpOp hi hS ⟨S, fun _ => rfl, hS, H⟩
    · have := ready_mono hj hji
      rw [H.1] at this
      cases this
  | succ fuel ih =>
    intro listed a w hD hfree hr hy hS H
    refine ⟨fun h => (by rw [h] at hr; cases hr), fun j hj => ?_⟩
    by_cases hji : j = i
    · subst hji; exact hy.wpOp hi hS ⟨S, fun _ => rfl, hS, H⟩
    · have hsk : sinkOnly ops j = false := by
        cases hs : sinkOnly ops j with
        | false => rfl
        | true => exact absurd (sinkOnly_last hD hs hj hr hi hload) hji
      have h1 := H.2 j (ready_mono hj hji)
      obtain ⟨hjun, oj, hoj, hall⟩ := mem_ready.1 hj
      have hnot : ∀ e ∈ oj.after, Region.binds .any e = true → e.on ≠ i := fun e he hb heq => by
        have h1 := hall e he hb
        have h0 := (mem_ready.1 hr).1
        rw [heq] at h1
        rcases Nat.lt_or_ge i listed.size with h' | h'
        · simp [h'] at h0 h1; rw [h0] at h1; cases h1
        · simp [Array.getElem?_eq_none h'] at h1
      have h2 := wpOp_putIf hoj (hfree j oj hoj hji hjun hnot) (fun cs b => hsel i oi cs b hi) (fun cs b => hsel j oj cs b hoj) hQ hy h1
      have hfree' : ∀ k ok, ops[k]? = some ok → k ≠ i → (listed.setIfInBounds j true).getD k true = false →
          (∀ e ∈ ok.after, Region.binds .any e = true → e.on ≠ i) → oi.apart ops ok = true := fun k ok hk hki hun hno => by
        refine hfree k ok hk hki ?_ hno
        by_cases hjk : j = k
        · subst hjk; exact hjun
        · rw [getD_set_ne true hjk] at hun; exact hun
      refine wpOp_mono ?_ h2
      rintro a' w' ⟨h3, S', hS', h4, h5⟩
      obtain rfl := hS' hsk
      refine ⟨S', fun _ => rfl, h4, ih (listed.setIfInBounds j true) a' w' (closed_set hD hj) hfree' (ready_mono hr (Ne.symm hji)) h3 h4 ?_⟩
      rw [Array.setIfInBounds_comm _ _ hji]
      exact h5
theorem wpAnyL_firstP {i : Nat} {oi : Oper} {v : Value} (hi : ops[i]? = some oi) (hsel : ∀ (j : Nat) (o : Oper) cs b, ops[j]? = some o → o.op ≠ .select cs b)
    (hQ : ∀ c a w, Q (.panic c) (a.put oi.dst v) w → Q (.panic c) a w) :
    ∀ (fuel : Nat) (S : World → Prop) (listed : Array Bool) (a : Act) (w : World), closed ops listed →
      (∀ j oj, ops[j]? = some oj → j ≠ i → listed.getD j true = false → (∀ e ∈ oj.after, Region.binds .any e = true → e.on ≠ i) → oi.apart ops oj = true) →
      i ∈ Region.ready .any ops listed → Yields P ops oi v a → S w →
      wpAnyL P ops Q fuel S (listed.setIfInBounds i true) (a.put oi.dst v) w → wpAnyL P ops Q (fuel + 1) S listed a w := by
  intro fuel
  induction fuel with
  | zero =>
    intro S listed a w _ _ hr hy hS H
    refine ⟨fun h => (by rw [h] at hr; cases hr), fun j hj => ?_⟩
    by_cases hji : j = i
    · subst hji; exact hy.wpOp hi ⟨S, fun _ => rfl, hS, H⟩
    · have := ready_mono hj hji
      rw [H.1] at this
      cases this
  | succ fuel ih =>
    intro S listed a w hD hfree hr hy hS H
    refine ⟨fun h => (by rw [h] at hr; cases hr), fun j hj => ?_⟩
    by_cases hji : j = i
    · subst hji; exact hy.wpOp hi ⟨S, fun _ => rfl, hS, H⟩
    · have h1 := H.2 j (ready_mono hj hji)
      obtain ⟨hjun, oj, hoj, hall⟩ := mem_ready.1 hj
      have hnot : ∀ e ∈ oj.after, Region.binds .any e = true → e.on ≠ i := fun e he hb heq => by
        have h1 := hall e he hb
        have h0 := (mem_ready.1 hr).1
        rw [heq] at h1
        exact unl h0 h1
      have h2 := wpOp_put hoj (hfree j oj hoj hji hjun hnot) (fun cs b => hsel i oi cs b hi) (fun cs b => hsel j oj cs b hoj) hQ hy h1
      have hfree' : ∀ k ok, ops[k]? = some ok → k ≠ i → (listed.setIfInBounds j true).getD k true = false →
          (∀ e ∈ ok.after, Region.binds .any e = true → e.on ≠ i) → oi.apart ops ok = true := fun k ok hk hki hun hno => by
        refine hfree k ok hk hki ?_ hno
        by_cases hjk : j = k
        · subst hjk; exact hjun
        · rw [getD_set_ne true hjk] at hun; exact hun
      refine wpOp_mono ?_ h2
      rintro a' w' ⟨h3, S', hS', h4, h5⟩
      refine ⟨S', hS', h4, ih S' (listed.setIfInBounds j true) a' w' (closed_set hD hj) hfree' (ready_mono hr (Ne.symm hji)) h3 h4 ?_⟩
      rw [Array.setIfInBounds_comm _ _ hji]
      exact h5
theorem wpAnyL_takeP {i : Nat} {oi : Oper} {v : Value} {fuel : Nat} {listed : Array Bool} {a : Act} {w : World} (hD : closed ops listed) (hi : ops[i]? = some oi)
    (hs : Region.noSelect ops = true) (hf : Region.free .any ops listed i = true) (hr : i ∈ Region.ready .any ops listed)
    (hQ : ∀ c a w, Q (.panic c) (a.put oi.dst v) w → Q (.panic c) a w) (hy : Yields P ops oi v a) (hS : S w)
    (h : wpAnyL P ops Q fuel S (listed.setIfInBounds i true) (a.put oi.dst v) w) : wpAnyL P ops Q (fuel + 1) S listed a w :=
  wpAnyL_firstP hi (Region.noSelect_spec hs) hQ fuel S listed a w hD (Region.free_spec hi hf) hr hy hS h
theorem wpAnyL_take {i : Nat} {oi : Oper} {v : Value} {fuel : Nat} {listed : Array Bool} {a : Act} {w : World} (hD : closed ops listed) (hi : ops[i]? = some oi) (hload : isLoad oi = true)
    (hs : Region.noSelect ops = true) (hf : Region.free .any ops listed i = true) (hr : i ∈ Region.ready .any ops listed)
    (hQ : ∀ c a w, Q (.panic c) (a.put oi.dst v) w → Q (.panic c) a w) (hy : YieldsIf P ops S oi v a) (hS : S w)
    (h : wpAnyL P ops Q fuel S (listed.setIfInBounds i true) (a.put oi.dst v) w) : wpAnyL P ops Q (fuel + 1) S listed a w :=
  wpAnyL_first hi hload (Region.noSelect_spec hs) hQ fuel listed a w hD (Region.free_spec hi hf) hr hy hS h
theorem wpAnyL_sole {i : Nat} {fuel : Nat} {listed : Array Bool} {a : Act} {w : World} (hr : Region.ready .any ops listed = [i])
    (h : wpOp P ops Q i (fun a' w' => ∃ S' : World → Prop, (sinkOnly ops i = false → S' = S) ∧ S' w' ∧ wpAnyL P ops Q fuel S' (listed.setIfInBounds i true) a' w') a w) : wpAnyL P ops Q (fuel + 1) S listed a w :=
  ⟨fun h0 => (by rw [hr] at h0; cases h0), fun j hj => (by rw [hr, List.mem_singleton] at hj; subst hj; exact h)⟩
theorem wpAnyL_done {listed : Array Bool} {a : Act} {w : World} (hr : Region.ready .any ops listed = []) (h : Q .normal a w) : ∀ fuel, wpAnyL P ops Q fuel S listed a w
  | 0 => ⟨hr, h⟩
  | _ + 1 => ⟨fun _ => h, by rw [hr]; simp⟩
theorem wp_region_L {id : Nat} {a : Act} {w : World} (hm : P.follows .mixedOrders = true)
    (h : wpAnyL P ops Q ops.size S (Array.replicate ops.size false) a w.drew) : (Code.region id ops true).wp P Q a w :=
  wp_region_any hm (wpAny_of_L _ _ _ _ _ h)
end
end Go.Proofs.YtlinfennhfphiaaDoor
