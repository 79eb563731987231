/- The walk as one reckoning, third part: what a plan leaves is enough. -/
import Derived.Test.YtlinfennhfphiaaDoorEb
namespace Go.Proofs.YtlinfennhfphiaaDoor
open Go.RowKit
section
variable {P : Program} {f : FuncId} {R : Ending → World → Prop} {w0 : World} {es : Blks}
theorem holds_below {sb : Blks} {W W' : World} (h : holds sb W) (hb : Below W.heap.size W W') : holds sb W' :=
  fun x hx i v hv => by
    have hc := h x hx i v hv
    exact ((bcell hb).1 _ _ (World.block_lt_of_cell? W ⟨x.1, i, none⟩ hc)).trans hc
theorem hold2_below {sb : Blks} {W W' : World} (h : hold2 sb es W) (hb : Below W.heap.size W W') : hold2 sb es W' := ⟨holds_below h.1 hb, holds_below h.2 hb⟩
theorem holds_of_St {bs : Blks} {gs : Bigs} {W : World} (h : St w0 W bs gs) : holds bs W := fun x hx => (h.2.1 x hx).2.2.2
theorem holds_of_Ex {bs : Blks} {gs : Bigs} {W : World} (hE : Ex w0 es) (h : St w0 W bs gs) : holds es W := fun x hx i v hv => ((bcell h.1).1 _ _ (hE x hx).1).trans ((hE x hx).2 i v hv)
theorem bl_lay (W : World) (o : Obj) : Below W.heap.size W (W.alloc o) := (Below.refl _ _).alloc (Nat.le_refl _) _

/-- The blocks that the region found, and what it made since. -/
def KS.pre (s : KS) (bs : Blks) : Prop :=
  match s.md with
  | .drw _ _ _ _ sb => subBlks sb bs
  | _ => True
theorem hold2_of {sb bs : Blks} {gs : Bigs} {W : World} (hE : Ex w0 es) (h : St w0 W bs gs) (hs : subBlks sb bs) : hold2 sb es W := by
  refine ⟨fun x hx i v hv => ?_, holds_of_Ex hE h⟩
  obtain ⟨j, hj⟩ := List.mem_iff_getElem?.1 hx
  obtain ⟨y, hy, h1, h2⟩ := hs j x hj
  rcases h2 with h2 | h2
  · rw [h2] at hv; simp at hv
  · rw [h2] at hv; rw [h1]; exact holds_of_St h y (List.mem_of_getElem? hy) i v hv
theorem sub_refl (bs : Blks) : subBlks bs bs := fun _ x h => ⟨x, h, rfl, Or.inr rfl⟩
theorem sub_blank (X : List Nat) : ∀ (i : Nat) (bs : Blks), subBlks (blank X i bs) bs
  | _, [], j, x, h => by simp [blank] at h
  | i, b :: bs, 0, x, h => by
    simp only [blank, List.getElem?_cons_zero, Option.some.injEq] at h
    refine ⟨b, rfl, ?_⟩
    subst h
    split
    · exact ⟨rfl, Or.inl rfl⟩
    · exact ⟨rfl, Or.inr rfl⟩
  | i, b :: bs, j + 1, x, h => by
    simp only [blank, List.getElem?_cons_succ] at h
    obtain ⟨y, hy, k⟩ := sub_blank X (i + 1) bs j x h
    exact ⟨y, by simpa using hy, k⟩
theorem sub_append {sb bs t : Blks} (h : subBlks sb bs) : subBlks sb (bs ++ t) := fun j x hx => by
  obtain ⟨y, hy, k⟩ := h j x hx
  exact ⟨y, by rw [List.getElem?_append_left (List.getElem?_eq_some_iff.1 hy).1]; exact hy, k⟩
theorem sub_set {sb bs : Blks} {k b : Nat} {cs cs' : List Value} (h : subBlks sb bs) (hb : bs[k]? = some (b, cs)) (hk : sb[k]? = none ∨ ∃ c, sb[k]? = some (c, [])) : subBlks sb (bs.set k (b, cs')) := fun j x hx => by
  obtain ⟨y, hy, h1, h2⟩ := h j x hx
  by_cases e : k = j
  · subst e
    rw [hb] at hy
    obtain rfl := Option.some.inj hy
    rcases hk with hk | ⟨c, hk⟩
    · rw [hk] at hx; cases hx
    · rw [hk] at hx
      obtain rfl := Option.some.inj hx
      exact ⟨(b, cs'), by rw [List.getElem?_set, if_pos rfl, if_pos (List.getElem?_eq_some_iff.1 hb).1], h1, Or.inl rfl⟩
  · exact ⟨y, by rw [List.getElem?_set, if_neg e]; exact hy, h1, h2⟩
def KS.sees (w0 : World) (es : Blks) (s : KS) (W : World) : Prop :=
  match s.md with
  | .drw _ _ _ (some (_, false)) sb => hold2 sb es W
  | _ => St w0 W s.bs s.gs
theorem sees_blocks {s : KS} {W : World} (h : s.sees w0 es W) : holds s.blocks W := by
  obtain ⟨todo, tmps, bs, gs, md⟩ := s
  cases md with
  | ctl => exact holds_of_St h
  | ord ops rest => exact holds_of_St h
  | drw n ops listed cur sb =>
    cases cur with
    | none => exact holds_of_St h
    | some c =>
      obtain ⟨i, sole⟩ := c
      cases sole with
      | true => exact holds_of_St h
      | false => exact h.1
theorem sees_es {s : KS} {W : World} (hE : Ex w0 es) (h : s.sees w0 es W) : holds es W := by
  obtain ⟨todo, tmps, bs, gs, md⟩ := s
  cases md with
  | ctl => exact holds_of_Ex hE h
  | ord ops rest => exact holds_of_Ex hE h
  | drw n ops listed cur sb =>
    cases cur with
    | none => exact holds_of_Ex hE h
    | some c =>
      obtain ⟨i, sole⟩ := c
      cases sole with
      | true => exact holds_of_Ex hE h
      | false => exact h.2
theorem pre_more {s : KS} {bs : Blks} {x : Nat × List Value} (h : s.pre bs) : s.pre (bs ++ [x]) := by
  obtain ⟨todo, tmps, bs', gs, md⟩ := s
  cases md with
  | drw n ops listed cur sb => exact sub_append h
  | _ => trivial
theorem wpOp_of {ops : Array Oper} {Q : Exit → Act → World → Prop} {i : Nat} {o : Oper} {K : Act → World → Prop} {a : Act} {w : World} (ho : ops[i]? = some o) (hw : Region.wanted o (yielded ops a.tmps) = true) (h : o.wp P a w K Q) : wpOp P ops Q i K a w := by
  unfold wpOp; simp only [ho, hw, if_true]; exact .inl h
theorem wpOp_not {ops : Array Oper} {Q : Exit → Act → World → Prop} {i : Nat} {o : Oper} {K : Act → World → Prop} {a : Act} {w : World} (ho : ops[i]? = some o) (hw : Region.wanted o (yielded ops a.tmps) = false) (h : K (a.put o.dst undef) w) : wpOp P ops Q i K a w := by
  unfold wpOp; simp only [ho, hw, Bool.false_eq_true, if_false]; exact h
theorem put_at (tmps : Array Value) (dst : Option Tmp) (v : Value) : (Act.mk tmps []).put dst v = ⟨putAt tmps dst v, []⟩ := by cases dst <;> rfl
/-- An operation that may do what it likes: in a row, or the only one that may come up. -/
theorem AtM.loud (hE : Ex w0 es) {s : KS} {op : Oper} {ops : Array Oper} (hn : s.now = some (op, ops)) (hl : s.loud = true)
    (h : ∀ W, St w0 W s.bs s.gs → s.pre s.bs → ∀ i, ops[i]? = some op → ∀ K : Act → World → Prop,
      (∀ tmps bs gs W', AtM P f R w0 es ⟨s.todo, tmps, bs, gs, s.next⟩ → St w0 W' bs gs → s.pre bs → K ⟨tmps, []⟩ W') →
      (∀ tmps k b cs cs' gs W', s.bs[k]? = some (b, cs) → s.may k = true → AtM P f R w0 es ⟨s.todo, tmps, s.bs.set k (b, cs'), gs, s.nextP (s.bs.set k (b, cs'))⟩ → St w0 W' (s.bs.set k (b, cs')) gs → K ⟨tmps, []⟩ W') →
      wpOp P ops (QK P f R s.todo) i K ⟨s.tmps, []⟩ W) : AtM P f R w0 es s := by
  obtain ⟨todo, tmps, bs, gs, md⟩ := s
  cases md with
  | ctl => simp [KS.now] at hn
  | ord ops' rest =>
    cases rest with
    | nil => simp [KS.now] at hn
    | cons i rest =>
      simp only [KS.now, Option.map_eq_some_iff, Prod.mk.injEq] at hn
      obtain ⟨o, ho, rfl, rfl⟩ := hn
      intro W hS
      rw [wpOps_cons]
      exact h W hS trivial i ho _ (fun tmps' bs' gs' W' hA hS' _ => hA W' hS') (fun tmps' k b cs cs' gs' W' _ _ hA hS' => hA W' hS')
  | drw n ops' listed cur sb =>
    cases cur with
    | none => simp [KS.now] at hn
    | some c =>
      obtain ⟨i, sole⟩ := c
      cases n with
      | zero => simp [KS.now] at hn
      | succ n =>
        simp only [KS.now, Option.map_eq_some_iff, Prod.mk.injEq] at hn
        obtain ⟨o, ho, rfl, rfl⟩ := hn
        obtain rfl : sole = true := hl
        intro hc hsel hD hp W hS m hm'
        obtain rfl : n = m := by omega
        simp only [chk, List.contains_iff_mem] at hc
        have hi : i ∈ Region.ready .any ops' listed := hc
        have hp' : subBlks sb bs := hp (fun h0 => by rw [h0] at hi; cases hi)
        refine h W hS hp' i ho _ ?_ ?_
        · intro tmps' bs' gs' W' hA hS' hk
          exact ⟨hold2 sb es, fun _ => rfl, hold2_of hE hS' hk, hA rfl hsel (closed_set hD hi) (fun _ => hk) W' hS'⟩
        · intro tmps' k b cs cs' gs' W' hb hk hA hS'
          by_cases hs : sinkOnly ops' i = true
          · refine ⟨hold2 (bs.set k (b, cs')) es, fun h0 => (by rw [hs] at h0; cases h0), hold2_of hE hS' (sub_refl _), ?_⟩
            have hA' := hA
            simp only [KS.nextP, hs, if_true] at hA'
            exact hA' rfl hsel (closed_set hD hi) (fun _ => sub_refl _) W' hS'
          · have hs' : sinkOnly ops' i = false := by simpa using hs
            have hk2 : subBlks sb (bs.set k (b, cs')) := by
              simp only [KS.may, Bool.or_eq_true] at hk
              have hk' := hk.resolve_left hs
              refine sub_set hp' hb ?_
              split at hk'
              · exact Or.inl (by assumption)
              · exact Or.inr ⟨_, by assumption⟩
              · cases hk'
            refine ⟨hold2 sb es, fun _ => rfl, hold2_of hE hS' hk2, ?_⟩
            have hA' := hA
            simp only [KS.nextP, hs', Bool.false_eq_true, if_false] at hA'
            exact hA' rfl hsel (closed_set hD hi) (fun _ => hk2) W' hS'
/-- A load, in whichever mode. -/
theorem AtM.look (hE : Ex w0 es) {s : KS} {op : Oper} {ops : Array Oper} {v : Value} (hload : isLoad op = true) (hn : s.now = some (op, ops))
    (hv : (Region.wanted op (yielded ops s.tmps) = true ∧ ∀ W, s.sees w0 es W → (execOp s.ev op).run P W = .ok (.value v) W) ∨ (Region.wanted op (yielded ops s.tmps) = false ∧ v = undef))
    (hA : AtM P f R w0 es (s.adv op v)) : AtM P f R w0 es s := by
  by_cases hl : s.loud = true
  · refine AtM.loud hE hn hl fun W hS hK i hi K hKK _ => ?_
    have hsee : s.sees w0 es W := by
      obtain ⟨todo, tmps, bs, gs, md⟩ := s
      cases md with
      | ctl => simp [KS.now] at hn
      | ord ops rest => exact hS
      | drw n ops listed cur sb =>
        cases cur with
        | none => exact hS
        | some c =>
          obtain ⟨j, sole⟩ := c
          obtain rfl : sole = true := hl
          exact hS
    rcases hv with ⟨hw, hv⟩ | ⟨hw, rfl⟩
    · refine wpOp_of hi hw ?_
      show Oper.upon P op ⟨s.tmps, []⟩ K _ ((execOp s.ev op).run P W)
      rw [hv W hsee]
      show K ((Act.mk s.tmps []).put op.dst v) W
      rw [put_at]
      exact hKK _ _ _ W hA hS hK
    · refine wpOp_not hi hw ?_
      rw [put_at]
      exact hKK _ _ _ W hA hS hK
  · obtain ⟨todo, tmps, bs, gs, md⟩ := s
    cases md with
    | ctl => simp [KS.now] at hn
    | ord ops rest => exact absurd rfl hl
    | drw n ops' listed cur sb =>
      cases cur with
      | none => simp [KS.now] at hn
      | some c =>
        obtain ⟨i, sole⟩ := c
        cases n with
        | zero => simp [KS.now] at hn
        | succ n =>
          simp only [KS.now, Option.map_eq_some_iff, Prod.mk.injEq] at hn
          obtain ⟨o, ho, rfl, rfl⟩ := hn
          have hsole : sole = false := by cases sole with | true => exact absurd rfl hl | false => rfl
          subst hsole
          intro hc hsel hD hp W hS
          simp only [chk, Bool.and_eq_true, List.contains_iff_mem] at hc
          have hne : Region.ready .any ops' listed ≠ [] := fun h0 => by rw [h0] at hc; simp at hc
          have hH : hold2 sb es W := hold2_of hE hS (hp hne)
          refine wpAnyL_take hD ho hload hsel hc.2 hc.1 (fun c a w h => by cases h.1) (v := v) ?_ hH ?_
          · exact hv.imp (fun h => ⟨h.1, fun W hW => h.2 W hW⟩) id
          · rw [put_at]
            exact hA rfl hsel (closed_set hD hc.1) (fun _ => hp hne) W hS
/-- An operation that yields a value and leaves the world, in whichever mode. -/
theorem AtM.value (hE : Ex w0 es) {s : KS} {op : Oper} {ops : Array Oper} {v : Value} (hn : s.now = some (op, ops))
    (hv : (Region.wanted op (yielded ops s.tmps) = true ∧ ∀ W, (execOp s.ev op).run P W = .ok (.value v) W) ∨ (Region.wanted op (yielded ops s.tmps) = false ∧ v = undef))
    (hA : AtM P f R w0 es (s.adv op v)) : AtM P f R w0 es s := by
  by_cases hl : s.loud = true
  · refine AtM.loud hE hn hl fun W hS hK i hi K hKK _ => ?_
    rcases hv with ⟨hw, hv⟩ | ⟨hw, rfl⟩
    · refine wpOp_of hi hw ?_
      show Oper.upon P op ⟨s.tmps, []⟩ K _ ((execOp s.ev op).run P W)
      rw [hv W]
      show K ((Act.mk s.tmps []).put op.dst v) W
      rw [put_at]
      exact hKK _ _ _ W hA hS hK
    · refine wpOp_not hi hw ?_
      rw [put_at]
      exact hKK _ _ _ W hA hS hK
  · obtain ⟨todo, tmps, bs, gs, md⟩ := s
    cases md with
    | ctl => simp [KS.now] at hn
    | ord ops rest => exact absurd rfl hl
    | drw n ops' listed cur sb =>
      cases cur with
      | none => simp [KS.now] at hn
      | some c =>
        obtain ⟨i, sole⟩ := c
        cases n with
        | zero => simp [KS.now] at hn
        | succ n =>
          simp only [KS.now, Option.map_eq_some_iff, Prod.mk.injEq] at hn
          obtain ⟨o, ho, rfl, rfl⟩ := hn
          have hsole : sole = false := by cases sole with | true => exact absurd rfl hl | false => rfl
          subst hsole
          intro hc hsel hD hp W hS
          simp only [chk, Bool.and_eq_true, List.contains_iff_mem] at hc
          have hne : Region.ready .any ops' listed ≠ [] := fun h0 => by rw [h0] at hc; simp at hc
          have hH : hold2 sb es W := hold2_of hE hS (hp hne)
          refine wpAnyL_takeP hD ho hsel hc.2 hc.1 (fun c a w h => by cases h.1) (v := v) ?_ hH ?_
          · exact hv
          · rw [put_at]
            exact hA rfl hsel (closed_set hD hc.1) (fun _ => hp hne) W hS
def oneRes (tmps : Array Value) : ResultVar → Sem Value
  | .tmp t => pure (tmps.getD t undef)
  | .cell a t => do loadVar t (← asAddr (tmps.getD a undef))
theorem resV_sound {bs : Blks} {gs : Bigs} {tmps : Array Value} {W : World} (hS : St w0 W bs gs) : ∀ (rs : List ResultVar) (ks : List Nat) {p q : Prop} {vs : List Value}, resV P bs tmps rs ks p = some (vs, q) → q →
    p ∧ (rs.mapM (oneRes tmps)).run P W = .ok vs W := by
  intro rs
  induction rs with
  | nil =>
    intro ks p q vs h hq
    simp only [resV, Option.some.injEq, Prod.mk.injEq] at h
    obtain ⟨rfl, rfl⟩ := h
    exact ⟨hq, rfl⟩
  | cons r rs ih =>
    intro ks p q vs h hq
    cases r with
    | tmp t =>
      simp only [resV, Option.map_eq_some_iff, Prod.mk.injEq] at h
      obtain ⟨⟨vs', q'⟩, h1, rfl, rfl⟩ := h
      obtain ⟨hp, hr⟩ := ih ks h1 hq
      refine ⟨hp, ?_⟩
      rw [List.mapM_cons, Sem.run_bind]
      show ((rs.mapM (oneRes tmps) >>= fun x => pure (tmps.getD t undef :: x)) : Sem (List Value)).run P W = _
      rw [Sem.run_bind, hr]
      rfl
    | cell a t =>
      cases ks with
      | nil => simp [resV] at h
      | cons k ks =>
        simp only [resV] at h
        split at h
        · rename_i b cs hb
          split at h
          · rename_i v q1 hx
            simp only [Option.map_eq_some_iff, Prod.mk.injEq] at h
            obtain ⟨⟨vs', q'⟩, h1, rfl, rfl⟩ := h
            obtain ⟨hp, hr⟩ := ih ks h1 hq
            have hrun := loadW_sound (W := W) hx hp.1 (fun i v hv => (hS.2.1 _ (List.mem_of_getElem? hb)).2.2.2 i v hv)
            refine ⟨hp.2, ?_⟩
            have h1 : (oneRes tmps (.cell a t)).run P W = .ok v W := by
              have ha : ∃ ad, tmps.getD a undef = .pointer (some ad) := by
                unfold loadW at hx
                split at hx
                · exact ⟨_, by assumption⟩
                · cases hx
              obtain ⟨ad, ha⟩ := ha
              rw [ha] at hrun
              show (asAddr (tmps.getD a undef) >>= fun x => loadVar t x).run P W = _
              rw [ha]
              exact hrun
            rw [List.mapM_cons, Sem.run_bind, h1]
            show ((rs.mapM (oneRes tmps) >>= fun x => pure (v :: x)) : Sem (List Value)).run P W = _
            rw [Sem.run_bind, hr]
            rfl
          · cases h
        · cases h
theorem results_eq (fn : Func) (tmps : Array Value) {W : World} {vs : List Value} (h : (fn.results.toList.mapM (oneRes tmps)).run P W = .ok vs W) : (results fn tmps).run P W = .ok (oneV vs) W := by
  unfold results
  have e : fn.results.mapM (oneRes tmps) = List.toArray <$> fn.results.toList.mapM (oneRes tmps) := Array.mapM_eq_mapM_toList ..
  show (fn.results.mapM (oneRes tmps) >>= fun vs => (pure (if h : vs.size = 1 then vs[0] else .tuple vs) : Sem Value)).run P W = _
  rw [e, Sem.run_bind, Sem.run_map, h]
  show (Result.ok _ W : Result Value) = _
  congr 1
  match vs with
  | [] => rfl
  | [v] => rfl
  | _ :: _ :: _ => rfl
theorem ctl_sound {tmps : Array Value} {k k' : List Item} {md : Md} {bs : Blks} {gs : Bigs} (h : ctl tmps k = some (k', md)) (hA : AtM P f R w0 es ⟨k', tmps, bs, gs, md⟩) : AtM P f R w0 es ⟨k, tmps, bs, gs, .ctl⟩ := by
  intro W hS
  unfold ctl at h
  split at h
  · obtain ⟨rfl, rfl⟩ := Prod.mk.inj (Option.some.inj h); exact At.step (fun b cs => step_skip) (hA W hS)
  · obtain ⟨rfl, rfl⟩ := Prod.mk.inj (Option.some.inj h); exact At.step (fun b cs => step_label) (hA W hS)
  · obtain ⟨rfl, rfl⟩ := Prod.mk.inj (Option.some.inj h); exact At.step (fun b cs => step_inBlock) (hA W hS)
  · obtain ⟨rfl, rfl⟩ := Prod.mk.inj (Option.some.inj h); exact At.step (fun b cs => step_inScope) (hA W hS)
  · obtain ⟨rfl, rfl⟩ := Prod.mk.inj (Option.some.inj h); exact At.step (fun b cs => step_seq) (hA W hS)
  · split at h
    · rename_i hc
      obtain ⟨rfl, rfl⟩ := Prod.mk.inj (Option.some.inj h)
      exact At.step (fun b cs => step_cond (t := true) hc) (hA W hS)
    · rename_i hc
      obtain ⟨rfl, rfl⟩ := Prod.mk.inj (Option.some.inj h)
      exact At.step (fun b cs => step_cond (t := false) hc) (hA W hS)
    · cases h
  · obtain ⟨rfl, rfl⟩ := Prod.mk.inj (Option.some.inj h); exact At.step (fun b cs => step_block) (hA W hS)
  · obtain ⟨rfl, rfl⟩ := Prod.mk.inj (Option.some.inj h); exact At.step (fun b cs => step_scope) (hA W hS)
  · obtain ⟨rfl, rfl⟩ := Prod.mk.inj (Option.some.inj h); exact At.step (fun b cs => step_loop) (hA W hS)
  · obtain ⟨rfl, rfl⟩ := Prod.mk.inj (Option.some.inj h); exact At.step (fun b cs => step_inLoop) (hA W hS)
  · obtain ⟨k1, h1, h2⟩ := Option.map_eq_some_iff.1 h
    obtain ⟨rfl, rfl⟩ := Prod.mk.inj h2
    exact At.step (fun b cs => step_exit h1) (hA W hS)
  · obtain ⟨k1, h1, h2⟩ := Option.map_eq_some_iff.1 h
    obtain ⟨rfl, rfl⟩ := Prod.mk.inj h2
    exact At.step (fun b cs => step_goto h1) (hA W hS)
  · obtain ⟨rfl, rfl⟩ := Prod.mk.inj (Option.some.inj h)
    exact At.leaf (wp_region (hA W hS))
  · cases h
theorem wanted_now (hE : Ex w0 es) {s : KS} {op : Oper} {ops : Array Oper} {v : Value} (hn : s.now = some (op, ops)) (hw : Region.wanted op (yielded ops s.tmps) = true) (hv : ∀ W, (execOp s.ev op).run P W = .ok (.value v) W)
    (hA : AtM P f R w0 es (s.adv op v)) : AtM P f R w0 es s := AtM.value hE hn (Or.inl ⟨hw, hv⟩) hA
theorem look_now (hE : Ex w0 es) {s : KS} {op : Oper} {ops : Array Oper} {v : Value} (hload : isLoad op = true) (hn : s.now = some (op, ops)) (hw : Region.wanted op (yielded ops s.tmps) = true) (hv : ∀ W, s.sees w0 es W → (execOp s.ev op).run P W = .ok (.value v) W)
    (hA : AtM P f R w0 es (s.adv op v)) : AtM P f R w0 es s := AtM.look hE hload hn (Or.inl ⟨hw, hv⟩) hA
theorem set_same {tmps : Array Value} {sl : Nat} {u : Value} (h : tmps[sl]? = some u) : tmps.setIfInBounds sl u = tmps := by
  obtain ⟨hl, he⟩ := Array.getElem?_eq_some_iff.1 h
  apply Array.ext (by simp)
  intro i h1 h2
  rw [Array.getElem_setIfInBounds (by simpa using h1)]
  split
  · rename_i e; subst e; exact he.symm
  · rfl
theorem load_now {s : KS} {op : Oper} {t : TypeId} {x : Operand} {W : World} {v : Value} (ho : op.op = .load t x) (h : (Instr.loadAt t (s.ev x)).run P W = .ok v W) : (execOp s.ev op).run P W = .ok (.value v) W := by
  unfold execOp
  simp only [ho]
  rw [Sem.run_bind, h]
  rfl
theorem insW_sound (hm : P.follows .mixedOrders = true) (hE : Ex w0 es) (i : Ins) (s : KS) {K : KS → Prop} (h : insW P w0 es i s K) (hK : ∀ s', K s' → AtM P f R w0 es s') : AtM P f R w0 es s := by
  cases i with
  | c =>
    obtain ⟨todo, tmps, bs, gs, md⟩ := s
    simp only [insW] at h
    split at h
    · split at h
      · rename_i k md' hc
        exact ctl_sound hc (hK _ h)
      · exact h.elim
    · intro W hS
      exact ⟨rfl, hK _ h W hS⟩
    · split at h
      · rename_i hr
        intro hc hsel hD hp W hS
        exact wpAnyL_done hr ⟨rfl, hK _ h W hS⟩ _
      · exact h.elim
    · exact h.elim
  | d X =>
    obtain ⟨todo, tmps, bs, gs, md⟩ := s
    simp only [insW] at h
    split at h
    · split at h
      · rename_i hsel
        intro W hS
        have hS' : St w0 W.drew bs gs := St.drew hS
        exact At.leaf (wp_region_L hm (hK _ h rfl hsel closed_start (fun _ => sub_blank X 0 _) W.drew hS'))
      · exact h.elim
    · exact h.elim
  | «at» i sole =>
    obtain ⟨todo, tmps, bs, gs, md⟩ := s
    simp only [insW] at h
    split at h
    · split at h
      · rename_i hc
        intro _ hsel hD hp W hS
        cases sole with
        | true =>
          simp only [if_true, decide_eq_true_eq] at hc
          exact wpAnyL_sole hc (hK _ h (by simp [chk, hc]) hsel hD hp W hS _ rfl)
        | false => exact hK _ h hc hsel hD hp W hS
      · exact h.elim
    · exact h.elim
  | setv sl v =>
    obtain ⟨todo, tmps, bs, gs, md⟩ := s
    simp only [insW] at h
    split at h
    · rename_i u hu
      obtain ⟨rfl, h⟩ := h
      have key : tmps.setIfInBounds sl u = tmps := set_same hu
      have := hK _ h
      rwa [key] at this
    · exact h.elim
  | setc k i v =>
    obtain ⟨todo, tmps, bs, gs, md⟩ := s
    simp only [insW] at h
    split at h
    · rename_i b cs hb
      split at h
      · rename_i u hu
        obtain ⟨rfl, h⟩ := h
        have h1 : cs.set i u = cs := by
          obtain ⟨hl, he⟩ := List.getElem?_eq_some_iff.1 hu
          rw [← he]; exact List.set_getElem_self hl
        have h2 : bs.set k (b, cs.set i u) = bs := by
          rw [h1]
          obtain ⟨hl, he⟩ := List.getElem?_eq_some_iff.1 hb
          rw [← he]; exact List.set_getElem_self hl
        have := hK _ h
        rwa [h2] at this
      · exact h.elim
    · exact h.elim
  | v =>
    simp only [insW] at h
    split at h
    · rename_i op ops hn
      split at h
      · rename_i v hw hx
        exact wanted_now hE hn hw (fun W => prun_sound _ hx) (hK _ h)
      · exact h.elim
    · exact h.elim
  | u =>
    simp only [insW] at h
    split at h
    · rename_i op ops hn
      split at h
      · rename_i hw
        exact AtM.value hE hn (Or.inr ⟨hw, rfl⟩) (hK _ h)
      · exact h.elim
    · exact h.elim
  | own k =>
    simp only [insW] at h
    split at h
    · rename_i op ops hn
      split at h
      · rename_i b cs t x hw hb ho
        split at h
        · rename_i v q hx
          exact look_now hE (by unfold isLoad; rw [ho]) hn hw (fun W hW => load_now ho (loadW_sound hx h.1 (fun i v hv => sees_blocks hW _ (List.mem_of_getElem? hb) i v hv))) (hK _ h.2)
        · exact h.elim
      · exact h.elim
    · exact h.elim
  | ext k =>
    simp only [insW] at h
    split at h
    · rename_i op ops hn
      split at h
      · rename_i b cs t x hw hb ho
        split at h
        · rename_i v q hx
          exact look_now hE (by unfold isLoad; rw [ho]) hn hw (fun W hW => load_now ho (loadW_sound hx h.1 (fun i v hv => sees_es hE hW _ (List.mem_of_getElem? hb) i v hv))) (hK _ h.2)
        · exact h.elim
      · exact h.elim
    · exact h.elim
  | put k =>
    simp only [insW] at h
    split at h
    · rename_i op ops hn hl
      split at h
      · rename_i b cs hw hb
        split at h
        · rename_i cs' q hx
          have hloud : s.loud = true := by
            obtain ⟨todo, tmps, bs, gs, md⟩ := s
            cases md with
            | ctl => simp [KS.now] at hn
            | ord ops rest => rfl
            | drw n ops listed cur sb =>
              cases cur with
              | none => simp [KS.may] at hl
              | some c =>
                obtain ⟨i, sole⟩ := c
                cases sole with
                | true => rfl
                | false => simp [KS.may] at hl
          refine AtM.loud hE hn hloud fun W hS _ i hi K _ hPP => ?_
          obtain ⟨W', hr, hS'⟩ := vrun_sound (P := P) (w0 := w0) (gs := s.gs) (fun he => List.isEmpty_iff.1 he) _ hx h.1 hS hb
          refine wpOp_of hi hw ?_
          show Oper.upon P op ⟨s.tmps, []⟩ K _ ((execOp s.ev op).run P W)
          rw [hr]
          show K ((Act.mk s.tmps []).put op.dst undef) W'
          rw [put_at]
          exact hPP _ k _ _ _ _ W' hb hl (hK _ h.2) hS'
        · exact h.elim
      · exact h.elim
    · exact h.elim
  | call v =>
    simp only [insW] at h
    split at h
    · rename_i op ops hn hl
      split at h
      · rename_i g args hw hx
        refine AtM.loud hE hn hl fun W hS hK' i hi K hKK _ => ?_
        refine wpOp_of hi hw ?_
        show Oper.upon P op ⟨s.tmps, []⟩ K _ ((execOp s.ev op).run P W)
        rw [prun_sound (W := W) _ hx]
        refine Calls.mono (h.1 W hS) ?_
        rintro e w' ⟨rfl, hb⟩
        show K ((Act.mk s.tmps []).put op.dst v) w'
        rw [put_at]
        exact hKK _ _ _ _ (hK _ h.2) (hS.call hb) hK'
      · exact h.elim
    · exact h.elim
  | eq b =>
    simp only [insW] at h
    split at h
    · rename_i op ops hn
      split at h
      · rename_i t x y yt hw ho
        split at h
        · rename_i xs ys u hx hy hg
          refine wanted_now hE hn hw (fun W => ?_) (hK _ h.2)
          unfold execOp
          simp only [ho]
          show ((eqGuard .eql t x y (s.ev x) (s.ev y) >>= fun _ => binOp .eql t (s.ev x) (s.ev y)) >>= fun v => (pure (.value v) : Sem Next)).run P W = _
          rw [Sem.run_bind, Sem.run_bind, prun_sound _ hg, hx, hy]
          show (((Op.equalIn 10000 t (.agg xs) (.agg ys) >>= fun r => pure (Value.bool r)) : Sem Value).run P W).andThen _ = _
          rw [Sem.run_bind, h.1 W]
          rfl
        · exact h.elim
      · rename_i t x y yt hw ho
        split at h
        · rename_i xs ys u hx hy hg
          refine wanted_now hE hn hw (fun W => ?_) (hK _ h.2)
          unfold execOp
          simp only [ho]
          show ((eqGuard .neq t x y (s.ev x) (s.ev y) >>= fun _ => binOp .neq t (s.ev x) (s.ev y)) >>= fun v => (pure (.value v) : Sem Next)).run P W = _
          rw [Sem.run_bind, Sem.run_bind, prun_sound _ hg, hx, hy]
          show (((Op.equalIn 10000 t (.agg xs) (.agg ys) >>= fun r => pure (Value.bool (!r))) : Sem Value).run P W).andThen _ = _
          rw [Sem.run_bind, h.1 W]
          rfl
        · exact h.elim
      · exact h.elim
    · exact h.elim
  | fact v =>
    simp only [insW] at h
    split at h
    · rename_i op ops hn
      split at h
      · rename_i hw
        exact wanted_now hE hn hw (fun W => h.1 W) (hK _ h.2)
      · exact h.elim
    · exact h.elim
theorem insL_sound (hm : P.follows .mixedOrders = true) (hE : Ex w0 es) : ∀ (l : List Ins) (s : KS) {K : KS → Prop}, insL P w0 es l s K → (∀ s', K s' → AtM P f R w0 es s') → AtM P f R w0 es s
  | [], s, _, h, hK => hK s h
  | i :: l, s, _, h, hK => insW_sound hm hE i s h fun s' h' => insL_sound hm hE l s' h' hK
theorem insW_todo (i : Ins) (hi : i.inReg = true) (s : KS) {K : KS → Prop} (h : insW P w0 es i s K) : insW P w0 es i s fun s' => s'.todo = s.todo ∧ K s' := by
  cases i with
  | c => cases hi
  | d X => cases hi
  | «at» i sole =>
    obtain ⟨todo, tmps, bs, gs, md⟩ := s
    simp only [insW] at h ⊢
    split at h
    · split at h
      · rename_i h2
        exact ⟨by first | rfl | trivial, h⟩
      · exact h.elim
    · exact h.elim
  | setv sl v =>
    simp only [insW] at h ⊢
    split at h
    · rename_i hu
      exact ⟨h.1, by first | rfl | trivial, h.2⟩
    · exact h.elim
  | setc k i v =>
    simp only [insW] at h ⊢
    split at h
    · split at h
      · exact ⟨h.1, by first | rfl | trivial, h.2⟩
      · exact h.elim
    · exact h.elim
  | v =>
    simp only [insW] at h ⊢
    split at h
    · rename_i op ops hn
      split at h
      · rename_i v hw hx
        exact ⟨by first | rfl | trivial, h⟩
      · exact h.elim
    · exact h.elim
  | u =>
    simp only [insW] at h ⊢
    split at h
    · rename_i op ops hn
      split at h
      · rename_i hw
        exact ⟨by first | rfl | trivial, h⟩
      · exact h.elim
    · exact h.elim
  | own k =>
    simp only [insW] at h ⊢
    split at h
    · rename_i op ops hn
      split at h
      · rename_i b cs t x hw hb ho
        split at h
        · rename_i hx
          exact ⟨h.1, by first | rfl | trivial, h.2⟩
        · exact h.elim
      · exact h.elim
    · exact h.elim
  | ext k =>
    simp only [insW] at h ⊢
    split at h
    · rename_i op ops hn
      split at h
      · rename_i b cs t x hw hb ho
        split at h
        · rename_i hx
          exact ⟨h.1, by first | rfl | trivial, h.2⟩
        · exact h.elim
      · exact h.elim
    · exact h.elim
  | put k =>
    simp only [insW] at h ⊢
    split at h
    · rename_i op ops hn hl
      split at h
      · rename_i b cs hw hb
        split at h
        · rename_i hx
          exact ⟨h.1, by first | rfl | trivial, h.2⟩
        · exact h.elim
      · exact h.elim
    · exact h.elim
  | call v =>
    simp only [insW] at h ⊢
    split at h
    · rename_i op ops hn hl
      split at h
      · rename_i g args hw hx
        exact ⟨h.1, by first | rfl | trivial, h.2⟩
      · exact h.elim
    · exact h.elim
  | eq b =>
    simp only [insW] at h ⊢
    split at h
    · rename_i op ops hn
      split at h
      · rename_i t x y yt hw ho
        split at h
        · rename_i xs ys u hx hy hg
          exact ⟨h.1, by first | rfl | trivial, h.2⟩
        · exact h.elim
      · rename_i t x y yt hw ho
        split at h
        · rename_i xs ys u hx hy hg
          exact ⟨h.1, by first | rfl | trivial, h.2⟩
        · exact h.elim
      · exact h.elim
    · exact h.elim
  | fact v =>
    simp only [insW] at h ⊢
    split at h
    · rename_i op ops hn
      split at h
      · rename_i hw
        exact ⟨h.1, by first | rfl | trivial, h.2⟩
      · exact h.elim
    · exact h.elim
theorem insL_todo (hm : P.follows .mixedOrders = true) (hE : Ex w0 es) : ∀ (l : List Ins) (s : KS) {K : KS → Prop}, l.all Ins.inReg = true → insL P w0 es l s K → (∀ s', s'.todo = s.todo → K s' → AtM P f R w0 es s') → AtM P f R w0 es s
  | [], s, _, _, h, hK => hK s rfl h
  | i :: l, s, _, ha, h, hK => by
    simp only [List.all_cons, Bool.and_eq_true] at ha
    refine insW_sound hm hE i s (insW_todo i ha.1 s h) fun s' h' => ?_
    exact insL_todo hm hE l s' ha.2 h'.2 fun s'' e k => hK s'' (e.trans h'.1) k
theorem runR_sound (hm : P.follows .mixedOrders = true) (hE : Ex w0 es) : ∀ (o : ROrc) (s : KS) {K : KS → Prop}, runR P w0 es o s K →
    (∀ s', s'.todo = s.todo → (∃ n ops listed sb, s'.md = .drw n ops listed none sb ∧ Region.ready .any ops listed = []) → K s' → AtM P f R w0 es s') → AtM P f R w0 es s := by
  intro o
  induction o with
  | done =>
    rintro ⟨todo, tmps, bs, gs, md⟩ K h hK
    simp only [runR] at h
    split at h
    · split at h
      · rename_i hr
        exact hK _ rfl ⟨_, _, _, _, rfl, hr⟩ h
      · exact h.elim
    · exact h.elim
  | s l o ih =>
    intro s K h hK
    simp only [runR] at h
    split at h
    · rename_i ha
      exact insL_todo hm hE l s ha h fun s' e h' => ih s' h' fun s'' e' hd k => hK s'' (e'.trans e) hd k
    · exact h.elim
  | split sl t e iht ihe =>
    rintro ⟨todo, tmps, bs, gs, md⟩ K h hK
    simp only [runR] at h
    split at h
    · rename_i B hB
      have key : ∀ u, tmps[sl]? = some u → tmps.setIfInBounds sl u = tmps := fun u hu => set_same hu
      cases B with
      | true => have := iht _ (h.1 rfl) (fun s' e => hK s' e); rwa [key _ hB] at this
      | false => have := ihe _ (h.2 rfl) (fun s' e => hK s' e); rwa [key _ hB] at this
    · exact h.elim
  | new k ih =>
    intro s K h hK
    simp only [runR] at h
    split at h
    · rename_i op ops hn hl
      split at h
      · rename_i cs t kk hw hx
        refine AtM.loud hE hn hl fun W hS hK' i hi K' hKK _ => ?_
        have h1 := h W.heap.size
        split at h1
        · rename_i v hv
          refine wpOp_of hi hw ?_
          show Oper.upon P op ⟨s.tmps, []⟩ K' _ ((execOp s.ev op).run P W)
          rw [nrun_sound _ hx hv]
          show K' ((Act.mk s.tmps []).put op.dst v) _
          rw [put_at]
          exact hKK _ _ _ _ (ih _ _ h1 fun s' e hd k => hK s' e hd k) (hS.layEnd cs t) (pre_more hK')
        · exact h1.elim
      · exact h.elim
    · exact h.elim
  | big z k ih =>
    intro s K h hK
    simp only [runR] at h
    split at h
    · rename_i op ops hn hl
      split at h
      · rename_i g args hw hx
        refine AtM.loud hE hn hl fun W hS hK' i hi K' hKK _ => ?_
        refine wpOp_of hi hw ?_
        show Oper.upon P op ⟨s.tmps, []⟩ K' _ ((execOp s.ev op).run P W)
        rw [prun_sound (W := W) _ hx]
        refine Calls.mono (h.1 W hS) ?_
        rintro e w' ⟨A, c, rfl, hr, hb⟩
        show K' ((Act.mk s.tmps []).put op.dst _) w'
        rw [put_at]
        exact hKK _ _ _ _ (ih A c _ (h.2 A c) fun s' e hd k => hK s' e hd k) ((hS.call hb).bigEnd hr) hK'
      · exact h.elim
    · exact h.elim
  | fork i j a b iha ihb =>
    rintro ⟨todo, tmps, bs, gs, md⟩ K h hK
    simp only [runR] at h
    split at h
    · split at h
      · rename_i hc
        simp only [decide_eq_true_eq] at hc
        intro _ hsel hD hp W hS
        refine ⟨fun h0 => (by rw [hc] at h0; cases h0), fun x hx => ?_⟩
        rw [hc] at hx
        rcases List.mem_cons.1 hx with rfl | hx
        · exact iha _ h.1 (fun s' e hd k => hK s' e hd k) (by simp [chk, hc]) hsel hD hp W hS _ rfl
        · rw [List.mem_singleton] at hx
          subst hx
          exact ihb _ h.2 (fun s' e hd k => hK s' e hd k) (by simp [chk, hc]) hsel hD hp W hS _ rfl
      · exact h.elim
    · exact h.elim
/-- **What a plan leaves is enough.** -/
theorem lite_AtM {x : Array Value × Blks × Bigs} {s : KS} (hmd : s.md = .ctl) (hl : lite x s) (h : AtM P f R w0 es ⟨s.todo, x.1, x.2.1, x.2.2, .ctl⟩) : AtM P f R w0 es s := by
  obtain ⟨todo, tmps, bs, gs, md⟩ := s
  dsimp only at hmd
  subst hmd
  obtain ⟨h1, ⟨t, h2⟩, h3⟩ := hl
  dsimp only at h1 h2 h3
  subst h1 h2
  intro W hS
  refine h W (hS.less ?_ h3)
  exact List.sublist_append_left _ _
theorem runW_sound (hm : P.follows .mixedOrders = true) (hE : Ex w0 es) : ∀ (o : Orc) (Ls : List (KS → Prop)) (s : KS), (∀ L ∈ Ls, ∀ s, L s → AtM P f R w0 es s) → runW P f R w0 es o Ls s → AtM P f R w0 es s := by
  intro o
  induction o with
  | fin => intro Ls s hL h; exact h
  | s l o ih => intro Ls s hL h; exact insL_sound hm hE l s h fun s' h' => ih Ls s' hL h'
  | split sl t e iht ihe =>
    rintro Ls ⟨todo, tmps, bs, gs, md⟩ hL h
    simp only [runW] at h
    split at h
    · rename_i B hB
      have key : ∀ u, tmps[sl]? = some u → tmps.setIfInBounds sl u = tmps := fun u hu => set_same hu
      cases B with
      | true => have := iht Ls _ hL (h.1 rfl); rwa [key _ hB] at this
      | false => have := ihe Ls _ hL (h.2 rfl); rwa [key _ hB] at this
    · exact h.elim
  | gen sl k ih =>
    rintro Ls ⟨todo, tmps, bs, gs, md⟩ hL h
    simp only [runW] at h
    split at h
    · rename_i κ n hu
      have key : tmps.setIfInBounds sl (.int κ n) = tmps := set_same hu
      have := ih n Ls _ hL (h n rfl)
      rwa [key] at this
    · exact h.elim
  | new k ih =>
    intro Ls s hL h
    simp only [runW] at h
    split at h
    · rename_i op ops hn hl
      split at h
      · rename_i cs t kk hw hx
        refine AtM.loud hE hn hl fun W hS hK i hi K hKK _ => ?_
        have h1 := h W.heap.size
        split at h1
        · rename_i v hv
          refine wpOp_of hi hw ?_
          show Oper.upon P op ⟨s.tmps, []⟩ K _ ((execOp s.ev op).run P W)
          rw [nrun_sound _ hx hv]
          show K ((Act.mk s.tmps []).put op.dst v) _
          rw [put_at]
          exact hKK _ _ _ _ (ih _ Ls _ hL h1) (hS.layEnd cs t) (pre_more hK)
        · exact h1.elim
      · exact h.elim
    · exact h.elim
  | big z k ih =>
    intro Ls s hL h
    simp only [runW] at h
    split at h
    · rename_i op ops hn hl
      split at h
      · rename_i g args hw hx
        refine AtM.loud hE hn hl fun W hS hK i hi K hKK _ => ?_
        refine wpOp_of hi hw ?_
        show Oper.upon P op ⟨s.tmps, []⟩ K _ ((execOp s.ev op).run P W)
        rw [prun_sound (W := W) _ hx]
        refine Calls.mono (h.1 W hS) ?_
        rintro e w' ⟨A, c, rfl, hr, hb⟩
        show K ((Act.mk s.tmps []).put op.dst _) w'
        rw [put_at]
        exact hKK _ _ _ _ (ih A c Ls _ hL (h.2 A c)) ((hS.call hb).bigEnd hr) hK
      · exact h.elim
    · exact h.elim
  | meet S t o ih =>
    rintro Ls s hL h
    simp only [runW] at h
    refine runR_sound hm hE t s h.1 ?_
    rintro ⟨todo, tmps, bs, gs, md⟩ e ⟨n, ops, listed, sb, hmd, hr⟩ ⟨ρ, α, h1, h2, h3⟩
    dsimp only at e hmd h1 h2 h3
    subst hmd h1 h2 h3 e
    intro _ _ _ _ W hS
    have hA : At P f R s.todo ⟨(S ρ α).1, []⟩ W := ih ρ α Ls _ hL (h.2 ρ α) W hS
    cases n with
    | zero => exact wpAnyL_done hr ⟨rfl, hA⟩ _
    | succ n => exact wpAnyL_done hr ⟨rfl, hA⟩ _
  | loop I μ S o ih =>
    rintro Ls ⟨todo, tmps, bs, gs, md⟩ hL h
    simp only [runW] at h
    split at h
    · obtain ⟨⟨k, ξ, u, α, hI, hl⟩, hr⟩ := h
      have key : ∀ n k ξ u α, μ k ξ = n → I k ξ → AtM P f R w0 es ⟨todo, (S k ξ u α).1, (S k ξ u α).2.1, (S k ξ u α).2.2, .ctl⟩ := by
        intro n
        induction n using Nat.strongRecOn with
        | _ n ihn =>
          intro k ξ u α hn hI
          refine ih k ξ u α _ _ ?_ (hr k ξ u α hI)
          intro L hLm s hLs
          rcases List.mem_cons.1 hLm with rfl | hLm
          · obtain ⟨todo', tmps', bs', gs', md'⟩ := s
            dsimp only at hLs
            split at hLs
            · rename_i hmd
              obtain ⟨rfl, k', ξ', u', α', hI', hlt, hl'⟩ := hLs
              exact lite_AtM rfl hl' (ihn _ (hn ▸ hlt) k' ξ' u' α' rfl hI')
            · exact hLs.elim
          · exact hL L hLm s hLs
      exact lite_AtM rfl hl (key _ k ξ u α rfl hI)
    · exact h.elim
  | cut T I S t o iht iho =>
    intro Ls s hL h
    simp only [runW] at h
    refine iht _ s ?_ h.1
    intro L hLm s' hLs
    rcases List.mem_cons.1 hLm with rfl | hLm
    · obtain ⟨todo', tmps', bs', gs', md'⟩ := s'
      dsimp only at hLs
      split at hLs
      · obtain ⟨rfl, ξ, u, α, hI, hl⟩ := hLs
        exact lite_AtM rfl hl (iho ξ u α Ls _ hL (h.2 ξ u α hI))
      · exact hLs.elim
    · exact hL L hLm s' hLs
  | again d =>
    intro Ls s hL h
    simp only [runW] at h
    split at h
    · rename_i L hd
      exact hL L (List.mem_of_getElem? hd) s h
    · exact h.elim
  | ret ks =>
    rintro Ls ⟨todo, tmps, bs, gs, md⟩ hL h
    simp only [runW] at h
    split at h
    · rename_i fn hf
      intro W hS
      split at h
      · split at h
        · rename_i k vs q hr
          exact At.ret hf rfl (results_eq fn tmps (resV_sound hS _ _ hr h.1).2) (h.2 W hS)
        · exact h.elim
      · split at h
        · rename_i vs q hr
          exact At.end hf rfl (results_eq fn tmps (resV_sound hS _ _ hr h.1).2) (h.2 W hS)
        · exact h.elim
      · exact h.elim
    · exact h.elim
/-- A function's contract out of a plan and what it leaves. -/
theorem calls_of_plan (o : Orc) (hm : P.follows .mixedOrders = true) {fn : Func} {c : Code} {args tmps : Array Value} {w : World} {gs : Bigs} (h0 : St w w [] gs) (hE : Ex w es) (hf : P.funcs[f]? = some fn) (hb : fn.body = some c)
    (ht : args ++ Array.replicate (fn.ntmps - args.size) undef = tmps) (h : runW P f R w es o [] ⟨[.code c], tmps, [], gs, .ctl⟩) : Calls P f args w R :=
  calls_of_At hf hb (by rw [ht]; exact runW_sound hm hE o [] _ (fun _ hL => by cases hL) h w h0)
end
end Go.Proofs.YtlinfennhfphiaaDoor
