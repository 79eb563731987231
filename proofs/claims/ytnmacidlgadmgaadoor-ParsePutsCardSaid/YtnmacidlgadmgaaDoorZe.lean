/- The second engine, fifth part: what a plan leaves is enough. -/
import Derived.Test.YtnmacidlgadmgaaDoorZd
namespace Go.Proofs.YtnmacidlgadmgaaDoor
open Go.RowKit
section
variable {P : Program} {f : FuncId} {m : Aim} {B : Base} {es : Blks}
/-- Each block is blank, or as it stands. -/
def subX (sb bs : Blks) : Prop := ∀ (j : Nat) x, sb[j]? = some x → x.2 = [] ∨ bs[j]? = some x
theorem subX_of : ∀ {sb bs : Blks}, subC sb bs → subX sb bs
  | [], _, _, j, x, h => by simp at h
  | y :: r, [], hs, 0, x, h => by
    obtain rfl : y = x := by simpa using h
    exact Or.inl hs.1
  | y :: r, [], hs, j + 1, x, h => by
    rcases subX_of hs.2 j x (by simpa using h) with q | q
    · exact Or.inl q
    · simp at q
  | y :: r, z :: s, hs, 0, x, h => by
    obtain rfl : y = x := by simpa using h
    rcases hs.1 with q | q
    · exact Or.inl q
    · exact Or.inr (by rw [q]; rfl)
  | y :: r, z :: s, hs, j + 1, x, h => by
    rcases subX_of hs.2 j x (by simpa using h) with q | q
    · exact Or.inl q
    · exact Or.inr (by simpa using q)
theorem subX_refl (bs : Blks) : subX bs bs := fun _ _ h => Or.inr h
theorem subX_append {sb bs t : Blks} (h : subX sb bs) : subX sb (bs ++ t) := fun j x hx => (h j x hx).imp id getElem?_of_append
theorem subX_blank (X : List Nat) : ∀ (i : Nat) (bs : Blks), subX (blank X i bs) bs
  | _, [], j, x, h => by simp [blank] at h
  | i, b :: bs, 0, x, h => by
    simp only [blank, List.getElem?_cons_zero, Option.some.injEq] at h
    subst h
    split
    · exact Or.inl rfl
    · exact Or.inr rfl
  | i, b :: bs, j + 1, x, h => by
    simp only [blank, List.getElem?_cons_succ] at h
    exact (subX_blank X (i + 1) bs j x h).imp id (fun q => by simpa using q)
/-- The activation is in this state. -/
def AtX (P : Program) (f : FuncId) (m : Aim) (B : Base) (es : Blks) (s : KX) : Prop :=
  match s.md with
  | .ctl => ∀ W ds, Sx B W s.bs s.gs s.rs s.os → Mk B W ds → AtG f m.ro (m.fin P f) s.todo ⟨s.tmps, mk m ds⟩ W
  | .ord ops rest => ∀ W ds, Sx B W s.bs s.gs s.rs s.os → Mk B W ds → AtG f m.ro (m.fin P f) (.inRegion ops rest :: s.todo) ⟨s.tmps, mk m ds⟩ W
  | .drw n ops listed cur sb => chk ops listed cur = true → Region.noSelect ops = true → closed ops listed → (Region.ready .any ops listed ≠ [] → subX sb s.bs) → ∀ W ds, Sx B W s.bs s.gs s.rs s.os → Mk B W ds →
    match cur with
    | some (i, true) => ∀ k, n = k + 1 → opG P ops i (fun a' w' => ∃ S' : World → Prop, (sinkOnly ops i = false → S' = hold2 sb es) ∧ S' w' ∧ anyG P ops (fun a w => AtG f m.ro (m.fin P f) s.todo a w) k S' (listed.setIfInBounds i true) a' w') ⟨s.tmps, mk m ds⟩ W
    | _ => anyG P ops (fun a w => AtG f m.ro (m.fin P f) s.todo a w) n (hold2 sb es) listed ⟨s.tmps, mk m ds⟩ W
theorem putX_at (tmps : Array Value) (ds : List Deferred) (dst : Option Tmp) (v : Value) : (Act.mk tmps ds).put dst v = ⟨putAt tmps dst v, ds⟩ := by cases dst <;> rfl
theorem evalX (tmps : Array Value) (ds : List Deferred) : Act.eval ⟨tmps, ds⟩ = Act.eval ⟨tmps, []⟩ := by funext x; cases x <;> rfl
theorem holds_of_Sx {W : World} {bs : Blks} {gs : Bigs} {rs : Rws} {os : Lps} (h : Sx B W bs gs rs os) : holds bs W := fun x hx => (h.blk x hx).2.2.2
theorem holds_of_ExX {W : World} {bs : Blks} {gs : Bigs} {rs : Rws} {os : Lps} (hE : ExX B es) (h : Sx B W bs gs rs os) : holds es W := fun x hx i v hv => h.oldc (hE x hx).2.1 ((hE x hx).2.2 i v hv)
theorem hold2X {W : World} {sb bs : Blks} {gs : Bigs} {rs : Rws} {os : Lps} (hE : ExX B es) (h : Sx B W bs gs rs os) (hs : subX sb bs) : hold2 sb es W := by
  refine ⟨fun x hx i v hv => ?_, holds_of_ExX hE h⟩
  obtain ⟨j, hj⟩ := List.mem_iff_getElem?.1 hx
  rcases hs j x hj with q | q
  · rw [q] at hv; simp at hv
  · exact holds_of_Sx h x (List.mem_of_getElem? q) i v hv
def KX.pre (s : KX) (bs : Blks) : Prop :=
  match s.md with
  | .drw _ _ _ _ sb => subX sb bs
  | _ => True
def KX.sees (B : Base) (es : Blks) (s : KX) (W : World) : Prop :=
  match s.md with
  | .drw _ _ _ (some (_, false)) sb => hold2 sb es W
  | _ => Sx B W s.bs s.gs s.rs s.os
theorem seesX {s : KX} {W : World} (hE : ExX B es) (h : s.sees B es W) : hold2 s.blocks es W := by
  obtain ⟨todo, tmps, bs, gs, rs, os, md⟩ := s
  have key : Sx B W bs gs rs os → hold2 bs es W := fun h => ⟨holds_of_Sx h, holds_of_ExX hE h⟩
  cases md with
  | ctl => exact key h
  | ord ops rest => exact key h
  | drw n ops listed cur sb =>
    cases cur with
    | none => exact key h
    | some c =>
      obtain ⟨i, sole⟩ := c
      cases sole with
      | true => exact key h
      | false => exact h
theorem preX_more {s : KX} {bs : Blks} {x : Nat × List Value} (h : s.pre bs) : s.pre (bs ++ [x]) := by
  obtain ⟨todo, tmps, bs', gs, rs, os, md⟩ := s
  cases md with
  | drw n ops listed cur sb => exact subX_append h
  | _ => trivial
theorem not_defer_load {op : Oper} (h : isLoad op = true) : isDefer op = false := by
  unfold isLoad at h; unfold isDefer
  split at h
  · rename_i e; rw [e]
  · cases h
/-- An operation that may do what it likes: in a row, or the only one that may come up. -/
theorem AtX.loud (hE : ExX B es) {s : KX} {op : Oper} {ops : Array Oper} (hn : s.now = some (op, ops)) (hl : s.loud = true)
    (h : ∀ W ds, Sx B W s.bs s.gs s.rs s.os → Mk B W ds → s.pre s.bs → ∀ i, ops[i]? = some op → ∀ K : Act → World → Prop,
      (∀ tmps bs gs rs os W', AtX P f m B es ⟨s.todo, tmps, bs, gs, rs, os, s.next⟩ → Sx B W' bs gs rs os → Mk B W' ds → s.pre bs → K ⟨tmps, mk m ds⟩ W') →
      (∀ tmps bs gs rs os W', s.may bs → AtX P f m B es ⟨s.todo, tmps, bs, gs, rs, os, s.nextP bs⟩ → Sx B W' bs gs rs os → Mk B W' ds → K ⟨tmps, mk m ds⟩ W') →
      opG P ops i K ⟨s.tmps, mk m ds⟩ W) : AtX P f m B es s := by
  obtain ⟨todo, tmps, bs, gs, rs, os, md⟩ := s
  cases md with
  | ctl => simp [KX.now] at hn
  | ord ops' rest =>
    cases rest with
    | nil => simp [KX.now] at hn
    | cons i rest =>
      simp only [KX.now, Option.map_eq_some_iff, Prod.mk.injEq] at hn
      obtain ⟨o, ho, rfl, rfl⟩ := hn
      intro W ds hS hM
      exact AtG.op1 Aim.back (h W ds hS hM trivial i ho _ (fun tmps' bs' gs' rs' os' W' hA hS' hM' _ => hA W' ds hS' hM') (fun tmps' bs' gs' rs' os' W' _ hA hS' hM' => hA W' ds hS' hM'))
  | drw n ops' listed cur sb =>
    cases cur with
    | none => simp [KX.now] at hn
    | some c =>
      obtain ⟨i, sole⟩ := c
      cases n with
      | zero => simp [KX.now] at hn
      | succ n =>
        simp only [KX.now, Option.map_eq_some_iff, Prod.mk.injEq] at hn
        obtain ⟨o, ho, rfl, rfl⟩ := hn
        obtain rfl : sole = true := hl
        intro hc hsel hD hp W ds hS hM k hk'
        obtain rfl : n = k := by omega
        simp only [chk, List.contains_iff_mem] at hc
        have hi : i ∈ Region.ready .any ops' listed := hc
        have hp' : subX sb bs := hp (fun h0 => by rw [h0] at hi; cases hi)
        refine h W ds hS hM hp' i ho _ ?_ ?_
        · intro tmps' bs' gs' rs' os' W' hA hS' hM' hk
          exact ⟨hold2 sb es, fun _ => rfl, hold2X hE hS' hk, hA rfl hsel (closed_set hD hi) (fun _ => hk) W' ds hS' hM'⟩
        · intro tmps' bs' gs' rs' os' W' hmay hA hS' hM'
          simp only [KX.may] at hmay
          by_cases hs : sinkOnly ops' i = true
          · refine ⟨hold2 bs' es, fun h0 => (by rw [hs] at h0; cases h0), hold2X hE hS' (subX_refl _), ?_⟩
            simp only [KX.nextP, hs, if_true] at hA
            exact hA rfl hsel (closed_set hD hi) (fun _ => subX_refl _) W' ds hS' hM'
          · have hs' : sinkOnly ops' i = false := by simpa using hs
            simp only [hs', Bool.false_eq_true, if_false] at hmay
            refine ⟨hold2 sb es, fun _ => rfl, hold2X hE hS' (subX_of hmay), ?_⟩
            simp only [KX.nextP, hs', Bool.false_eq_true, if_false] at hA
            exact hA rfl hsel (closed_set hD hi) (fun _ => subX_of hmay) W' ds hS' hM'
theorem run_evalX (tmps : Array Value) (ds : List Deferred) (op : Oper) (W : World) : (execOp (Act.eval ⟨tmps, ds⟩) op).run P W = (execOp (Act.eval ⟨tmps, []⟩) op).run P W := by rw [evalX]
/-- A load, in whichever mode. -/
theorem AtX.look (hE : ExX B es) {s : KX} {op : Oper} {ops : Array Oper} {v : Value} (hload : isLoad op = true) (hn : s.now = some (op, ops))
    (hw : Region.wanted op (yielded ops s.tmps) = true) (hv : ∀ W, hold2 s.blocks es W → (execOp s.ev op).run P W = .ok (.value v) W)
    (hA : AtX P f m B es (s.adv op v)) : AtX P f m B es s := by
  by_cases hl : s.loud = true
  · refine AtX.loud hE hn hl fun W ds hS hM hK i hi K hKK _ => ?_
    have hsee : s.sees B es W := by
      obtain ⟨todo, tmps, bs, gs, rs, os, md⟩ := s
      cases md with
      | ctl => simp [KX.now] at hn
      | ord ops rest => exact hS
      | drw n ops listed cur sb =>
        cases cur with
        | none => exact hS
        | some c =>
          obtain ⟨j, sole⟩ := c
          obtain rfl : sole = true := hl
          exact hS
    refine opG_of hi hw (not_defer_load hload) ?_
    rw [run_evalX]
    show upG P op K _ ((execOp s.ev op).run P W)
    rw [hv W (seesX hE hsee)]
    show K ((Act.mk s.tmps (mk m ds)).put op.dst v) W
    rw [putX_at]
    exact hKK _ _ _ _ _ W hA hS hM hK
  · obtain ⟨todo, tmps, bs, gs, rs, os, md⟩ := s
    cases md with
    | ctl => simp [KX.now] at hn
    | ord ops rest => exact absurd rfl hl
    | drw n ops' listed cur sb =>
      cases cur with
      | none => simp [KX.now] at hn
      | some c =>
        obtain ⟨i, sole⟩ := c
        cases n with
        | zero => simp [KX.now] at hn
        | succ n =>
          simp only [KX.now, Option.map_eq_some_iff, Prod.mk.injEq] at hn
          obtain ⟨o, ho, rfl, rfl⟩ := hn
          have hsole : sole = false := by cases sole with | true => exact absurd rfl hl | false => rfl
          subst hsole
          intro hc hsel hD hp W ds hS hM
          simp only [chk, Bool.and_eq_true, List.contains_iff_mem] at hc
          have hne : Region.ready .any ops' listed ≠ [] := fun h0 => by rw [h0] at hc; simp at hc
          have hH : hold2 sb es W := hold2X hE hS (hp hne)
          refine anyG_take hD ho hload hsel hc.2 hc.1 (v := v) ⟨not_defer_load hload, Or.inl ⟨hw, fun W' hW' => ?_⟩⟩ hH ?_
          · rw [run_evalX]; exact hv W' hW'
          · rw [putX_at]
            exact hA rfl hsel (closed_set hD hc.1) (fun _ => hp hne) W ds hS hM
/-- An operation that yields a value and leaves the world, in whichever mode. -/
theorem AtX.value (hE : ExX B es) {s : KX} {op : Oper} {ops : Array Oper} {v : Value} (hn : s.now = some (op, ops)) (hd : isDefer op = false)
    (hv : (Region.wanted op (yielded ops s.tmps) = true ∧ ∀ W, (execOp s.ev op).run P W = .ok (.value v) W) ∨ (Region.wanted op (yielded ops s.tmps) = false ∧ v = undef))
    (hA : AtX P f m B es (s.adv op v)) : AtX P f m B es s := by
  by_cases hl : s.loud = true
  · refine AtX.loud hE hn hl fun W ds hS hM hK i hi K hKK _ => ?_
    rcases hv with ⟨hw, hv⟩ | ⟨hw, rfl⟩
    · refine opG_of hi hw hd ?_
      rw [run_evalX]
      show upG P op K _ ((execOp s.ev op).run P W)
      rw [hv W]
      show K ((Act.mk s.tmps (mk m ds)).put op.dst v) W
      rw [putX_at]
      exact hKK _ _ _ _ _ W hA hS hM hK
    · refine opG_un hi hw ?_
      rw [putX_at]
      exact hKK _ _ _ _ _ W hA hS hM hK
  · obtain ⟨todo, tmps, bs, gs, rs, os, md⟩ := s
    cases md with
    | ctl => simp [KX.now] at hn
    | ord ops rest => exact absurd rfl hl
    | drw n ops' listed cur sb =>
      cases cur with
      | none => simp [KX.now] at hn
      | some c =>
        obtain ⟨i, sole⟩ := c
        cases n with
        | zero => simp [KX.now] at hn
        | succ n =>
          simp only [KX.now, Option.map_eq_some_iff, Prod.mk.injEq] at hn
          obtain ⟨o, ho, rfl, rfl⟩ := hn
          have hsole : sole = false := by cases sole with | true => exact absurd rfl hl | false => rfl
          subst hsole
          intro hc hsel hD hp W ds hS hM
          simp only [chk, Bool.and_eq_true, List.contains_iff_mem] at hc
          have hne : Region.ready .any ops' listed ≠ [] := fun h0 => by rw [h0] at hc; simp at hc
          have hH : hold2 sb es W := hold2X hE hS (hp hne)
          refine anyG_takeP hD ho hsel hc.2 hc.1 (v := v) ⟨hd, hv.imp (fun h => ⟨h.1, fun W' _ => ?_⟩) id⟩ hH ?_
          · rw [run_evalX]; exact h.2 W'
          · rw [putX_at]
            exact hA rfl hsel (closed_set hD hc.1) (fun _ => hp hne) W ds hS hM
theorem resX_sound {bs : Blks} {gs : Bigs} {rs' : Rws} {os : Lps} {tmps : Array Value} {W : World} (hS : Sx B W bs gs rs' os) : ∀ (rs : List ResultVar) (ks : List Nat) {p q : Prop} {vs : List Value}, resV P bs tmps rs ks p = some (vs, q) → q →
    p ∧ (rs.mapM (oneRes tmps)).run P W = .ok vs W := by
  intro rs
  induction rs with
  | nil =>
    intro ks p q vs h hq
    simp only [resV, Option.some.injEq, Prod.mk.injEq] at h
    obtain ⟨rfl, rfl⟩ := h
    exact ⟨hq, rfl⟩
  | cons r rs ih =>
    intro ks p q vs h hq
    cases r with
    | tmp t =>
      simp only [resV, Option.map_eq_some_iff, Prod.mk.injEq] at h
      obtain ⟨⟨vs', q'⟩, h1, rfl, rfl⟩ := h
      obtain ⟨hp, hr⟩ := ih ks h1 hq
      refine ⟨hp, ?_⟩
      rw [List.mapM_cons, Sem.run_bind]
      show ((rs.mapM (oneRes tmps) >>= fun x => pure (tmps.getD t undef :: x)) : Sem (List Value)).run P W = _
      rw [Sem.run_bind, hr]
      rfl
    | cell a t =>
      cases ks with
      | nil => simp [resV] at h
      | cons k ks =>
        simp only [resV] at h
        split at h
        · rename_i b cs hb
          split at h
          · rename_i v q1 hx
            simp only [Option.map_eq_some_iff, Prod.mk.injEq] at h
            obtain ⟨⟨vs', q'⟩, h1, rfl, rfl⟩ := h
            obtain ⟨hp, hr⟩ := ih ks h1 hq
            have hrun := loadW_sound (W := W) hx hp.1 (fun i v hv => (hS.blk _ (List.mem_of_getElem? hb)).2.2.2 i v hv)
            refine ⟨hp.2, ?_⟩
            have h1 : (oneRes tmps (.cell a t)).run P W = .ok v W := by
              have ha : ∃ ad, tmps.getD a undef = .pointer (some ad) := by
                unfold loadW at hx
                split at hx
                · exact ⟨_, by assumption⟩
                · cases hx
              obtain ⟨ad, ha⟩ := ha
              rw [ha] at hrun
              show (asAddr (tmps.getD a undef) >>= fun x => loadVar t x).run P W = _
              rw [ha]
              exact hrun
            rw [List.mapM_cons, Sem.run_bind, h1]
            show ((rs.mapM (oneRes tmps) >>= fun x => pure (v :: x)) : Sem (List Value)).run P W = _
            rw [Sem.run_bind, hr]
            rfl
          · cases h
        · cases h
theorem condX {tmps : Array Value} {ds : List Deferred} {c : Operand} {t : Bool} (h : Act.eval ⟨tmps, []⟩ c = .bool t) : Act.eval ⟨tmps, ds⟩ c = .bool t := by rw [evalX]; exact h
theorem ctlX_sound {tmps : Array Value} {k k' : List Item} {md : Md} {bs : Blks} {gs : Bigs} {rs : Rws} {os : Lps} (h : ctl tmps k = some (k', md)) (hA : AtX P f m B es ⟨k', tmps, bs, gs, rs, os, md⟩) : AtX P f m B es ⟨k, tmps, bs, gs, rs, os, .ctl⟩ := by
  intro W ds hS hM
  have hB : Back P (m.fin P f) := Aim.back
  unfold ctl at h
  split at h
  · obtain ⟨rfl, rfl⟩ := Prod.mk.inj (Option.some.inj h); exact AtG.step hB (fun _ _ _ => stepR_skip) (hA W ds hS hM)
  · obtain ⟨rfl, rfl⟩ := Prod.mk.inj (Option.some.inj h); exact AtG.step hB (fun _ _ _ => stepR_label) (hA W ds hS hM)
  · obtain ⟨rfl, rfl⟩ := Prod.mk.inj (Option.some.inj h); exact AtG.step hB (fun _ _ _ => stepR_inBlock) (hA W ds hS hM)
  · obtain ⟨rfl, rfl⟩ := Prod.mk.inj (Option.some.inj h)
    exact AtG.step hB (fun _ _ _ => step_lone_go (by simp [stepG, stepG.exec, Frame.atR])) (hA W ds hS hM)
  · obtain ⟨rfl, rfl⟩ := Prod.mk.inj (Option.some.inj h); exact AtG.step hB (fun _ _ _ => stepR_seq) (hA W ds hS hM)
  · split at h
    · rename_i hc
      obtain ⟨rfl, rfl⟩ := Prod.mk.inj (Option.some.inj h)
      exact AtG.step hB (fun _ _ _ => stepR_cond (t := true) (condX hc)) (hA W ds hS hM)
    · rename_i hc
      obtain ⟨rfl, rfl⟩ := Prod.mk.inj (Option.some.inj h)
      exact AtG.step hB (fun _ _ _ => stepR_cond (t := false) (condX hc)) (hA W ds hS hM)
    · cases h
  · obtain ⟨rfl, rfl⟩ := Prod.mk.inj (Option.some.inj h); exact AtG.step hB (fun _ _ _ => stepR_block) (hA W ds hS hM)
  · obtain ⟨rfl, rfl⟩ := Prod.mk.inj (Option.some.inj h)
    exact AtG.step hB (fun _ _ _ => step_lone_go (by simp [stepG, stepG.exec, Frame.atR])) (hA W ds hS hM)
  · obtain ⟨rfl, rfl⟩ := Prod.mk.inj (Option.some.inj h); exact AtG.step hB (fun _ _ _ => stepR_loop) (hA W ds hS hM)
  · obtain ⟨rfl, rfl⟩ := Prod.mk.inj (Option.some.inj h); exact AtG.step hB (fun _ _ _ => stepR_inLoop) (hA W ds hS hM)
  · obtain ⟨k1, h1, h2⟩ := Option.map_eq_some_iff.1 h
    obtain ⟨rfl, rfl⟩ := Prod.mk.inj h2
    exact AtG.step hB (fun _ _ _ => stepR_exit h1) (hA W ds hS hM)
  · obtain ⟨k1, h1, h2⟩ := Option.map_eq_some_iff.1 h
    obtain ⟨rfl, rfl⟩ := Prod.mk.inj h2
    exact AtG.step hB (fun _ _ _ => stepR_goto h1) (hA W ds hS hM)
  · obtain ⟨rfl, rfl⟩ := Prod.mk.inj (Option.some.inj h)
    exact AtG.step hB (fun _ _ _ => stepR_region) (hA W ds hS hM)
  · cases h
/-- A store that the reckoning followed. -/
theorem vrunX_sound {b : Nat} {dz : Bool} {α : Type} {gs : Bigs} {rs : Rws} {os : Lps} (hdz : dz = true → gs = []) (e : Sem α) : ∀ {W : World} {bs : Blks} {k : Nat} {cs cs' : List Value} {p q : Prop} {x : α},
    vrun P b dz e cs p = some (x, cs', q) → q → Sx B W bs gs rs os → bs[k]? = some (b, cs) → ∃ W', e.run P W = .ok x W' ∧ Sx B W' (bs.set k (b, cs')) gs rs os ∧ BelX ⟨W, fun i => i = b⟩ W' := by
  induction e with
  | pure a =>
    intro W bs k cs cs' p q x h _ hS hk
    simp only [vrun, Option.some.injEq, Prod.mk.injEq] at h
    obtain ⟨rfl, rfl, _⟩ := h
    refine ⟨W, rfl, ?_, BelX.refl⟩
    obtain ⟨hkl, hv⟩ := List.getElem?_eq_some_iff.1 hk
    rw [← hv, List.set_getElem_self hkl]
    exact hS
  | load md a kk ih =>
    intro W bs k cs cs' p q x h hq hS hk
    obtain ⟨bl, o, sp⟩ := a
    cases sp with
    | some _ => simp [vrun] at h
    | none =>
      simp only [vrun] at h
      split at h
      · rename_i v hv
        obtain rfl := (vrun_imp _ h hq).1
        have hc := (hS.blk _ (List.mem_of_getElem? hk)).2.2.2 o v hv
        simp only [Sem.run, hc]
        exact ih _ h hq hS hk
      · cases h
  | store md a v kk ih =>
    intro W bs k cs cs' p q x h hq hS hk
    obtain ⟨bl, o, sp⟩ := a
    cases sp with
    | some _ => simp [vrun] at h
    | none =>
      simp only [vrun] at h
      split at h
      · rename_i c0 cr h1
        split at h
        · rename_i hcond
          simp only [Bool.and_eq_true, Bool.or_eq_true, decide_eq_true_eq] at hcond
          obtain rfl := (vrun_imp _ h hq).1
          obtain ⟨_, _, hfz, hcs⟩ := hS.blk _ (List.mem_of_getElem? hk)
          have hc := hcs o _ (List.getElem?_eq_getElem hcond.2)
          rw [oneCell_run h1 hc (hfz o)]
          have hS' := hS.set k o hk hcond.2 (hcond.1.imp hdz id) v
          have hkl : k < bs.length := (List.getElem?_eq_some_iff.1 hk).1
          obtain ⟨W', hr, hS2, hb2⟩ := ih h hq hS' (by rw [List.getElem?_set, if_pos rfl, if_pos hkl])
          have hb1 := belX_set W bl o v
          refine ⟨W', hr, by rw [List.set_set] at hS2; exact hS2, ?_⟩
          exact hb1.change hb2 (fun i _ e => Or.inr e)
        · cases h
      · cases h
  | program kk ih => intro W bs k cs cs' p q x h hq hS hk; simp only [vrun] at h; simp only [Sem.run]; exact ih _ h hq hS hk
  | mark md k ih => intro W bs k cs cs' p q x h hq hS hk; simp only [vrun] at h; simp only [Sem.run]; exact ih h hq hS hk
  | _ => intro W bs k cs cs' p q x h; simp [vrun] at h
theorem loadX_now {s : KX} {op : Oper} {t : TypeId} {x : Operand} {W : World} {v : Value} (ho : op.op = .load t x) (h : (Instr.loadAt t (s.ev x)).run P W = .ok v W) : (execOp s.ev op).run P W = .ok (.value v) W := by
  unfold execOp
  simp only [ho]
  rw [Sem.run_bind, h]
  rfl
theorem insX_sound (hm : P.follows .mixedOrders = true) (hE : ExX B es) (i : IX) (s : KX) {K : KX → Prop} (h : insX P m B es i s K) (hK : ∀ s', K s' → AtX P f m B es s') : AtX P f m B es s := by
  have hB : Back P (m.fin P f) := Aim.back
  cases i with
  | c =>
    obtain ⟨todo, tmps, bs, gs, rs, os, md⟩ := s
    simp only [insX] at h
    split at h
    · split at h
      · rename_i k md' hc
        exact ctlX_sound hc (hK _ h)
      · exact h.elim
    · intro W ds hS hM
      exact AtG.step hB (fun _ _ _ => stepR_region_end) (hK _ h W ds hS hM)
    · split at h
      · rename_i hr
        intro hc hsel hD hp W ds hS hM
        exact anyG_done hr (hK _ h W ds hS hM) _
      · exact h.elim
    · exact h.elim
  | d X =>
    obtain ⟨todo, tmps, bs, gs, rs, os, md⟩ := s
    simp only [insX] at h
    split at h
    · split at h
      · rename_i hsel
        intro W ds hS hM
        exact AtG.regionAny hB hm (hK _ h rfl hsel closed_start (fun _ => subX_blank X 0 _) W.drew ds hS.drew (hM.call (bl_drew (Below.refl _ _))))
      · exact h.elim
    · exact h.elim
  | «at» i sole =>
    obtain ⟨todo, tmps, bs, gs, rs, os, md⟩ := s
    simp only [insX] at h
    split at h
    · split at h
      · rename_i n ops listed sb hc
        intro _ hsel hD hp W ds hS hM
        cases sole with
        | true =>
          simp only [if_true, decide_eq_true_eq] at hc
          have := hK _ h (by simp [chk, hc]) hsel hD hp W ds hS hM _ rfl
          refine ⟨fun h0 => (by rw [hc] at h0; cases h0), fun j hj => ?_⟩
          rw [hc, List.mem_singleton] at hj
          subst hj
          exact this
        | false => exact hK _ h hc hsel hD hp W ds hS hM
      · exact h.elim
    · exact h.elim
  | setv sl v =>
    obtain ⟨todo, tmps, bs, gs, rs, os, md⟩ := s
    simp only [insX] at h
    split at h
    · rename_i u hu
      obtain ⟨rfl, h⟩ := h
      have key : tmps.setIfInBounds sl u = tmps := set_same hu
      have := hK _ h
      rwa [key] at this
    · exact h.elim
  | setc k i v =>
    obtain ⟨todo, tmps, bs, gs, rs, os, md⟩ := s
    simp only [insX] at h
    split at h
    · rename_i b cs hb
      split at h
      · rename_i u hu
        obtain ⟨rfl, h⟩ := h
        have h1 : cs.set i u = cs := by
          obtain ⟨hl, he⟩ := List.getElem?_eq_some_iff.1 hu
          rw [← he]; exact List.set_getElem_self hl
        have h2 : bs.set k (b, cs.set i u) = bs := by
          rw [h1]
          obtain ⟨hl, he⟩ := List.getElem?_eq_some_iff.1 hb
          rw [← he]; exact List.set_getElem_self hl
        have := hK _ h
        rwa [h2] at this
      · exact h.elim
    · exact h.elim
  | setb k cs' =>
    obtain ⟨todo, tmps, bs, gs, rs, os, md⟩ := s
    simp only [insX] at h
    split at h
    · rename_i b cs hb
      obtain ⟨rfl, h⟩ := h
      have h2 : bs.set k (b, cs) = bs := by
        obtain ⟨hl, he⟩ := List.getElem?_eq_some_iff.1 hb
        rw [← he]; exact List.set_getElem_self hl
      have := hK _ h
      rwa [h2] at this
    · exact h.elim
  | v =>
    simp only [insX] at h
    split at h
    · rename_i op ops hn
      split at h
      · rename_i v hw hx hd
        exact AtX.value hE hn hd (Or.inl ⟨hw, fun W => prun_sound _ hx⟩) (hK _ h)
      · exact h.elim
    · exact h.elim
  | u =>
    simp only [insX] at h
    split at h
    · rename_i op ops hn
      split at h
      · rename_i hw hd
        exact AtX.value hE hn hd (Or.inr ⟨hw, rfl⟩) (hK _ h)
      · exact h.elim
    · exact h.elim
  | own k =>
    simp only [insX] at h
    split at h
    · rename_i op ops hn
      split at h
      · rename_i b cs t x hw hb ho
        split at h
        · rename_i v q hx
          exact AtX.look hE (by unfold isLoad; rw [ho]) hn hw (fun W hW => loadX_now ho (loadW_sound hx h.1 (fun i v hv => hW.1 _ (List.mem_of_getElem? hb) i v hv))) (hK _ h.2)
        · exact h.elim
      · exact h.elim
    · exact h.elim
  | ext k =>
    simp only [insX] at h
    split at h
    · rename_i op ops hn
      split at h
      · rename_i b cs t x hw hb ho
        split at h
        · rename_i v q hx
          exact AtX.look hE (by unfold isLoad; rw [ho]) hn hw (fun W hW => loadX_now ho (loadW_sound hx h.1 (fun i v hv => hW.2 _ (List.mem_of_getElem? hb) i v hv))) (hK _ h.2)
        · exact h.elim
      · exact h.elim
    · exact h.elim
  | ld v =>
    simp only [insX] at h
    split at h
    · rename_i op ops hn
      split at h
      · rename_i hw hload
        exact AtX.look hE hload hn hw h.1 (hK _ h.2)
      · exact h.elim
    · exact h.elim
  | put k =>
    simp only [insX] at h
    split at h
    · rename_i op ops hn hl
      split at h
      · rename_i b cs hw hb hd
        split at h
        · rename_i cs' q hx
          refine AtX.loud hE hn hl fun W ds hS hM _ i hi K _ hPP => ?_
          obtain ⟨W', hr, hS', hY⟩ := vrunX_sound (P := P) (B := B) (gs := s.gs) (fun he => List.isEmpty_iff.1 he) _ hx h.1 hS hb
          refine opG_of hi hw hd ?_
          rw [run_evalX]
          show upG P op K _ ((execOp s.ev op).run P W)
          rw [hr]
          show K ((Act.mk s.tmps (mk m ds)).put op.dst undef) W'
          rw [putX_at]
          exact hPP _ _ _ _ _ W' h.2.1 (hK _ h.2.2) hS' (hM.turn hS hb hY)
        · exact h.elim
      · exact h.elim
    · exact h.elim
  | putp k cs' =>
    simp only [insX] at h
    split at h
    · rename_i op ops hn hl
      split at h
      · rename_i b cs hw hb hd
        refine AtX.loud hE hn hl fun W ds hS hM _ i hi K _ hPP => ?_
        obtain ⟨W', hr, hY, hS'⟩ := h.1 W hS
        refine opG_of hi hw hd ?_
        rw [run_evalX]
        show upG P op K _ ((execOp s.ev op).run P W)
        rw [hr]
        show K ((Act.mk s.tmps (mk m ds)).put op.dst undef) W'
        rw [putX_at]
        exact hPP _ _ _ _ _ W' h.2.1 (hK _ h.2.2) hS' (hM.mem hS hY)
      · exact h.elim
    · exact h.elim
  | call v =>
    simp only [insX] at h
    split at h
    · rename_i op ops hn hl
      split at h
      · rename_i g args hw hx hd
        refine AtX.loud hE hn hl fun W ds hS hM hK' i hi K hKK _ => ?_
        refine opG_of hi hw hd ?_
        rw [run_evalX]
        show upG P op K _ ((execOp s.ev op).run P W)
        rw [prun_sound (W := W) _ hx]
        refine Calls.mono (h.1 W hS) ?_
        rintro e w' ⟨rfl, hb⟩
        refine ⟨v, rfl, ?_⟩
        rw [putX_at]
        exact hKK _ _ _ _ _ _ (hK _ h.2) (hS.call hb) (hM.call hb) hK'
      · exact h.elim
    · exact h.elim
  | eq b =>
    simp only [insX] at h
    split at h
    · rename_i op ops hn
      split at h
      · rename_i t x y yt hw ho
        split at h
        · rename_i xs ys u hx hy hg
          refine AtX.value hE hn (by unfold isDefer; rw [ho]) (Or.inl ⟨hw, fun W => ?_⟩) (hK _ h.2)
          unfold execOp
          simp only [ho]
          show ((eqGuard .eql t x y (s.ev x) (s.ev y) >>= fun _ => binOp .eql t (s.ev x) (s.ev y)) >>= fun v => (pure (.value v) : Sem Next)).run P W = _
          rw [Sem.run_bind, Sem.run_bind, prun_sound _ hg, hx, hy]
          show (((Op.equalIn 10000 t (.agg xs) (.agg ys) >>= fun r => pure (Value.bool r)) : Sem Value).run P W).andThen _ = _
          rw [Sem.run_bind, h.1 W]
          rfl
        · exact h.elim
      · rename_i t x y yt hw ho
        split at h
        · rename_i xs ys u hx hy hg
          refine AtX.value hE hn (by unfold isDefer; rw [ho]) (Or.inl ⟨hw, fun W => ?_⟩) (hK _ h.2)
          unfold execOp
          simp only [ho]
          show ((eqGuard .neq t x y (s.ev x) (s.ev y) >>= fun _ => binOp .neq t (s.ev x) (s.ev y)) >>= fun v => (pure (.value v) : Sem Next)).run P W = _
          rw [Sem.run_bind, Sem.run_bind, prun_sound _ hg, hx, hy]
          show (((Op.equalIn 10000 t (.agg xs) (.agg ys) >>= fun r => pure (Value.bool (!r))) : Sem Value).run P W).andThen _ = _
          rw [Sem.run_bind, h.1 W]
          rfl
        · exact h.elim
      · exact h.elim
    · exact h.elim
  | fact v =>
    simp only [insX] at h
    split at h
    · rename_i op ops hn
      split at h
      · rename_i hw hd
        exact AtX.value hE hn hd (Or.inl ⟨hw, fun W => h.1 W⟩) (hK _ h.2)
      · exact h.elim
    · exact h.elim
  | br j =>
    obtain ⟨todo, tmps, bs, gs, rs, os, md⟩ := s
    simp only [insX] at h
    split at h
    · rename_i k l r l' hj hro
      obtain ⟨rfl, hr, h⟩ := h
      intro W ds hS hM
      have hq := (hS.ob _ (List.mem_of_getElem? hj)).2
      refine AtG.step hB (fun b cs hb => stepR_beginRound (hb.trans hro) (run_beginRound hq hr)) ?_
      exact hK _ h _ ds (hS.loop hj _) (hM.loop hS hj _)
    · exact h.elim
  | fg l =>
    obtain ⟨todo, tmps, bs, gs, rs, os, md⟩ := s
    have hsub : ∀ W, Sx B W bs gs rs os → Sx B W bs (l.filterMap (gs[·]?)) rs os := fun W hS => ⟨hS.bx, hS.blk, hS.nd, fun g hg => by
      obtain ⟨j, _, hj⟩ := List.mem_filterMap.1 hg
      exact hS.bg g (List.mem_of_getElem? hj), hS.rw, hS.ob, hS.on⟩
    have h' := hK _ h
    cases md with
    | ctl => exact fun W ds hS hM => h' W ds (hsub W hS) hM
    | ord ops rest => exact fun W ds hS hM => h' W ds (hsub W hS) hM
    | drw n ops listed cur sb => exact fun a b c d W ds hS hM => h' a b c d W ds (hsub W hS) hM
  | am i sole m' =>
    obtain ⟨todo, tmps, bs, gs, rs, os, md⟩ := s
    simp only [insX] at h
    split at h
    · split at h
      · rename_i n ops listed sb hc
        obtain ⟨hl, h⟩ := h
        intro _ hsel hD hp W ds hS hM
        cases sole with
        | true =>
          have hr := chkM_sole hc
          rw [← hl] at hr h
          have := hK _ h (by simp [chk, hr]) hsel hD hp W ds hS hM _ rfl
          refine ⟨fun h0 => (by rw [hr] at h0; cases h0), fun j hj => ?_⟩
          rw [hr, List.mem_singleton] at hj
          subst hj
          exact this
        | false =>
          have hr := chkM_free hc
          rw [← hl] at hr h
          exact hK _ h hr hsel hD hp W ds hS hM
      · exact h.elim
    · exact h.elim
  | nrm t =>
    obtain ⟨todo, tmps, bs, gs, rs, os, md⟩ := s
    obtain ⟨h1, h⟩ := h
    have := hK _ h
    dsimp only at h1
    rw [← h1] at this; exact this
  | lst m' =>
    obtain ⟨todo, tmps, bs, gs, rs, os, md⟩ := s
    simp only [insX] at h
    split at h
    · obtain ⟨h1, h⟩ := h
      have := hK _ h
      rw [← h1] at this; exact this
    · exact h.elim
  | sel l =>
    obtain ⟨todo, tmps, bs, gs, rs, os, md⟩ := s
    simp only [insX] at h
    split at h
    · rename_i hl
      simp only [decide_eq_true_eq] at hl
      exact fun W ds hS hM => hK _ h W ds (hS.sel l hl.1 hl.2) hM
    · exact h.elim
theorem insXL_sound (hm : P.follows .mixedOrders = true) (hE : ExX B es) : ∀ (l : List IX) (s : KX) {K : KX → Prop}, insXL P m B es l s K → (∀ s', K s' → AtX P f m B es s') → AtX P f m B es s
  | [], s, _, h, hK => hK s h
  | i :: l, s, _, h, hK => insX_sound hm hE i s h fun s' h' => insXL_sound hm hE l s' h' hK
end
end Go.Proofs.YtnmacidlgadmgaaDoor
