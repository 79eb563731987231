/- The second engine, first part: the steps of an activation, or of a round within a range over a function, operation by operation, in any order of evaluation. -/
import Derived.Test.YtnmacidlgadmgaaDoorEd
import Derived.RangeFuncIn
import Derived.RangeFuncOwn
import Derived.Defers
namespace Go.Proofs.YtnmacidlgadmgaaDoor
open Go.RowKit

/-- A round within a range over a function: from yield's call to where it comes back. -/
def Rounds (P : Program) (l : Nat) (f : FuncId) (tmps : Array Value) (assign body : Code) (w : World) (R : Value → World → Prop) : Prop :=
  ∀ (c : Frame) (cs : List Frame), ∃ v w', R v w' ∧ Steps P (lone (Frame.round l f tmps assign body .normal) (c :: cs) w) (lone (c.finish v) cs w')
theorem Rounds.mono {P : Program} {l : Nat} {f : FuncId} {tmps : Array Value} {assign body : Code} {w : World} {R R' : Value → World → Prop} (h : Rounds P l f tmps assign body w R) (hr : ∀ v w', R v w' → R' v w') : Rounds P l f tmps assign body w R' :=
  fun c cs => let ⟨v, w', r, s⟩ := h c cs; ⟨v, w', hr _ _ r, s⟩
/-- What is asked behind an operation. -/
def upG (P : Program) (o : Oper) (K : Act → World → Prop) (a : Act) : Result Next → Prop
  | .ok (.value v) w => K (a.put o.dst v) w
  | .ok .skip w => K (a.put o.dst undef) w
  | .ok (.enter g args) w => Calls P g args w fun e w' => ∃ v, e = .returned v ∧ K (a.put o.dst v) w'
  | .ok (.round l g tmps assign body) w => Rounds P l g tmps assign body w fun v w' => K (a.put o.dst v) w'
  | _ => False
def isDefer (o : Oper) : Bool :=
  match o.op with
  | .defer _ => true
  | _ => false
theorem not_defer {o : Oper} (h : isDefer o = false) : ∀ c, o.op ≠ .defer c := by
  intro c e; unfold isDefer at h; rw [e] at h; cases h
def opG (P : Program) (ops : Array Oper) (i : Nat) (K : Act → World → Prop) (a : Act) (w : World) : Prop :=
  match ops[i]? with
  | none => K a w
  | some o => if Region.wanted o (yielded ops a.tmps) then isDefer o = false ∧ upG P o K a ((execOp a.eval o).run P w) else K (a.put o.dst undef) w
def opsG (P : Program) (ops : Array Oper) (K : Act → World → Prop) : List Nat → Act → World → Prop
  | [], a, w => K a w
  | i :: rest, a, w => opG P ops i (opsG P ops K rest) a w
theorem upG_mono {P : Program} {o : Oper} {K K' : Act → World → Prop} {a : Act} (h : ∀ a w, K a w → K' a w) : ∀ {r : Result Next}, upG P o K a r → upG P o K' a r := by
  intro r hr
  cases r with
  | halt x w => exact hr.elim
  | ok n w =>
    cases n with
    | value v => exact h _ _ hr
    | skip => exact h _ _ hr
    | enter g args => exact Calls.mono hr fun e w' ⟨v, he, hk⟩ => ⟨v, he, h _ _ hk⟩
    | round l g tmps assign body => exact Rounds.mono hr fun v w' hk => h _ _ hk
    | _ => exact hr.elim
theorem opG_mono {P : Program} {ops : Array Oper} {i : Nat} {K K' : Act → World → Prop} {a : Act} {w : World} (h : ∀ a w, K a w → K' a w) (hh : opG P ops i K a w) : opG P ops i K' a w := by
  unfold opG at *
  split
  · rename_i ho; rw [ho] at hh; exact h _ _ hh
  · rename_i o ho
    rw [ho] at hh
    dsimp only at hh
    split
    · rename_i hw; rw [if_pos hw] at hh; exact ⟨hh.1, upG_mono h hh.2⟩
    · rename_i hw; rw [if_neg hw] at hh; exact h _ _ hh
/-- What is to come of an activation: closed under steps ahead of it. -/
def Back (P : Program) (Fin : CallKind → List Frame → Machine → Prop) : Prop := ∀ kd cs m m', Steps P m m' → Fin kd cs m' → Fin kd cs m
def AtG (f : FuncId) (ro : Option Nat) (Fin : CallKind → List Frame → Machine → Prop) (k : List Item) (a : Act) (w : World) : Prop :=
  ∀ (b : Frame) (cs : List Frame), b.fn = f → b.roundOf = ro → Fin b.kind cs (lone (b.atR a k) cs w)
section
variable {P : Program} {f : FuncId} {ro : Option Nat} {Fin : CallKind → List Frame → Machine → Prop} {k : List Item} {a : Act} {w : World}
theorem AtG.step (hB : Back P Fin) {k' : List Item} {w' : World} (h : ∀ (b : Frame) (cs : List Frame), b.roundOf = ro → Go.step P (lone (b.atR a k) cs w) = .next (lone (b.atR a k') cs w')) (h' : AtG f ro Fin k' a w') : AtG f ro Fin k a w :=
  fun b cs h1 h3 => hB _ _ _ _ (.one (h b cs h3)) (h' b cs h1 h3)
theorem AtG.ops (hB : Back P Fin) {ops : Array Oper} : ∀ (l : List Nat) (a : Act) (w : World), opsG P ops (fun a w => AtG f ro Fin k a w) l a w → AtG f ro Fin (.inRegion ops l :: k) a w := by
  intro l
  induction l with
  | nil => intro a w h; exact AtG.step hB (fun _ _ _ => stepR_region_end) h
  | cons i rest ih =>
    intro a w h b cs h1 h3
    simp only [opsG, opG] at h
    cases ho : ops[i]? with
    | none =>
      simp only [ho] at h
      have hs := stepR_op_skip (P := P) (b := b) (a := a) (k := k) (cs := cs) (w := w) (ops := ops) (i := i) (rest := rest) (by simp [ho])
      simp only [ho, Option.bind_none, Act.put] at hs
      exact hB _ _ _ _ (.one hs) (ih a w h b cs h1 h3)
    | some o =>
      simp only [ho] at h
      by_cases hw : Region.wanted o (yielded ops a.tmps) = true
      · rw [if_pos hw] at h
        obtain ⟨hd, h⟩ := h
        have hg := stepGR_op (P := P) (b := b) (k := k) (cs := cs) (w := w) (rest := rest) ho hw
        rw [Oper.semAt_eq _ _ _ (not_defer hd)] at hg
        have hfin : ∀ v, (b.atR a (.inRegion ops (i :: rest) :: k)).finish v = b.atR (a.put o.dst v) (.inRegion ops rest :: k) := by
          intro v; rw [Frame.finish_atR, ho]; rfl
        cases hr : (execOp a.eval o).run P w with
        | halt x w' => rw [hr] at h; exact h.elim
        | ok n w' =>
          rw [hr] at h
          cases n with
          | value v =>
            refine hB _ _ _ _ (.one (step_lone_go ?_)) (ih _ _ h b cs h1 h3)
            rw [hg, ← hfin]; simp [stepG.apply, hr]
          | skip =>
            refine hB _ _ _ _ (.one (step_lone_go ?_)) (ih _ _ h b cs h1 h3)
            rw [hg, ← hfin]; simp [stepG.apply, hr]
          | enter g args =>
            obtain ⟨e, w'', fr, ⟨v, rfl, hR⟩, hsteps, _, hleave⟩ := h (b.atR a (.inRegion ops (i :: rest) :: k) :: cs)
            have henter : Go.step P (lone (b.atR a (.inRegion ops (i :: rest) :: k)) cs w) =
                .next (lone (Frame.enter P g args .normal) (b.atR a (.inRegion ops (i :: rest) :: k) :: cs) w') :=
              step_lone_go (by rw [hg]; simp [stepG.apply, hr, Frame.atR])
            refine hB _ _ _ _ (.head henter (Steps.trans hsteps (.one ?_))) (ih _ _ hR b cs h1 h3)
            rw [← hfin]; exact step_leave_returned hleave
          | round l g tmps assign body =>
            obtain ⟨v, w'', hR, hsteps⟩ := h (b.atR a (.inRegion ops (i :: rest) :: k)) cs
            have henter : Go.step P (lone (b.atR a (.inRegion ops (i :: rest) :: k)) cs w) =
                .next (lone (Frame.round l g tmps assign body .normal) (b.atR a (.inRegion ops (i :: rest) :: k) :: cs) w') :=
              step_lone_go (by rw [hg]; simp [stepG.apply, hr])
            rw [hfin] at hsteps
            exact hB _ _ _ _ (.head henter hsteps) (ih _ _ hR b cs h1 h3)
          | _ => exact h.elim
      · rw [if_neg hw] at h
        have hs := stepR_op_skip (P := P) (b := b) (a := a) (k := k) (cs := cs) (w := w) (ops := ops) (i := i) (rest := rest) (by simp [ho]; simpa using hw)
        simp only [ho, Option.bind_some] at hs
        exact hB _ _ _ _ (.one hs) (ih _ _ h b cs h1 h3)
theorem AtG.region (hB : Back P Fin) {id : Nat} {ops : Array Oper} (h : opsG P ops (fun a w => AtG f ro Fin k a w) (List.range ops.size) a w) : AtG f ro Fin (.code (.region id ops false) :: k) a w :=
  AtG.step hB (fun _ _ _ => stepR_region) (AtG.ops hB _ _ _ h)
/-- A loop, by a relation. -/
theorem AtG.loop (hB : Back P Fin) {c : Code} (I : Act → World → Prop) (μ : Act → World → Nat) (h₀ : I a w)
    (round : ∀ a w, I a w → (∀ a' w', I a' w' → μ a' w' < μ a w → AtG f ro Fin (.inLoop c :: k) a' w') → AtG f ro Fin (.code c :: .inLoop c :: k) a w) : AtG f ro Fin (.code (.loop c) :: k) a w := by
  have key : ∀ n a w, μ a w = n → I a w → AtG f ro Fin (.code c :: .inLoop c :: k) a w := by
    intro n
    induction n using Nat.strongRecOn with
    | _ n ih =>
      intro a w hn hI
      exact round a w hI fun a' w' hI' hlt => AtG.step hB (fun _ _ _ => stepR_inLoop) (ih (μ a' w') (hn ▸ hlt) a' w' rfl hI')
  exact AtG.step hB (fun _ _ _ => stepR_loop) (key _ a w rfl h₀)
end

/-! ## A region in any order -/
section
variable {P : Program} {ops : Array Oper} {S : World → Prop}
theorem opG_of {i : Nat} {op : Oper} {K : Act → World → Prop} {a : Act} {w : World} (hi : ops[i]? = some op) (hw : Region.wanted op (yielded ops a.tmps) = true) (hd : isDefer op = false) (h : upG P op K a ((execOp a.eval op).run P w)) : opG P ops i K a w := by
  unfold opG; rw [hi]; dsimp only; rw [if_pos hw]; exact ⟨hd, h⟩
theorem opG_un {i : Nat} {op : Oper} {K : Act → World → Prop} {a : Act} {w : World} (hi : ops[i]? = some op) (hw : Region.wanted op (yielded ops a.tmps) = false) (h : K (a.put op.dst undef) w) : opG P ops i K a w := by
  unfold opG; rw [hi]; dsimp only; rw [if_neg (by rw [hw]; simp)]; exact h
/-- Like YieldsIf, and no defer statement. -/
def YieldsG (P : Program) (ops : Array Oper) (S : World → Prop) (o : Oper) (v : Value) (a : Act) : Prop :=
  isDefer o = false ∧ YieldsIf P ops S o v a
theorem YieldsG.opG {i : Nat} {o : Oper} {v : Value} {a : Act} (hi : ops[i]? = some o) (hy : YieldsG P ops S o v a) {K : Act → World → Prop} {w : World} (hS : S w) (h : K (a.put o.dst v) w) : opG P ops i K a w := by
  rcases hy.2 with ⟨hw, hv⟩ | ⟨hw, rfl⟩
  · exact opG_of hi hw hy.1 (by rw [hv w hS]; exact h)
  · exact opG_un hi hw h
theorem opG_putIf {j : Nat} {oi oj : Oper} {v : Value} (hj : ops[j]? = some oj) (hap : oi.apart ops oj = true)
    (hsi : ∀ cs b, oi.op ≠ .select cs b) (hsj : ∀ cs b, oj.op ≠ .select cs b) {K : Act → World → Prop} {a : Act} {w : World}
    (hy : YieldsG P ops S oi v a) (h : opG P ops j K (a.put oi.dst v) w) :
    opG P ops j (fun a' w' => YieldsG P ops S oi v a' ∧ K (a'.put oi.dst v) w') a w := by
  obtain ⟨h1, h2, h3⟩ := Oper.apart_spec hap
  have keep : ∀ (a : Act), YieldsG P ops S oi v a → ∀ u, YieldsG P ops S oi v (a.put oj.dst u) := fun a hy u =>
    ⟨hy.1, hy.2.of_same (execOp_put oi hsi a oj.dst u h3) (wanted_put oi a oj.dst u h3)⟩
  unfold opG at *
  simp only [hj] at *
  rw [wanted_put oj a oi.dst v h1] at h
  split
  · rename_i hw
    rw [if_pos hw] at h
    refine ⟨h.1, ?_⟩
    have h := h.2
    rw [execOp_put oj hsj a oi.dst v h1] at h
    generalize (execOp a.eval oj).run P w = r at *
    cases r with
    | halt x w' => exact h.elim
    | ok n w' =>
      cases n with
      | value u => exact ⟨keep a hy u, by rw [← Act.put_comm a v u h2]; exact h⟩
      | skip => exact ⟨keep a hy _, by rw [← Act.put_comm a v undef h2]; exact h⟩
      | enter g args => exact Calls.mono h fun e w'' ⟨u, he, hk⟩ => ⟨u, he, keep a hy u, by rw [← Act.put_comm a v u h2]; exact hk⟩
      | round l g tmps assign body => exact Rounds.mono h fun u w'' hk => ⟨keep a hy u, by rw [← Act.put_comm a v u h2]; exact hk⟩
      | _ => exact h.elim
  · rename_i hw
    rw [if_neg hw] at h
    exact ⟨keep a hy _, by rw [← Act.put_comm a v undef h2]; exact h⟩
def anyG (P : Program) (ops : Array Oper) (K : Act → World → Prop) : Nat → (World → Prop) → Array Bool → Act → World → Prop
  | 0, _, listed, a, w => Region.ready .any ops listed = [] ∧ K a w
  | fuel + 1, S, listed, a, w =>
    (Region.ready .any ops listed = [] → K a w) ∧
    ∀ i ∈ Region.ready .any ops listed, opG P ops i (fun a' w' => ∃ S' : World → Prop, (sinkOnly ops i = false → S' = S) ∧ S' w' ∧ anyG P ops K fuel S' (listed.setIfInBounds i true) a' w') a w
theorem anyG_sound {K : Act → World → Prop} : ∀ (fuel t : Nat) (S : World → Prop) (listed : Array Bool) (a : Act) (w : World), anyG P ops K fuel S listed a w → opsG P ops K (Region.linearise.go .any ops fuel t listed []) a w := by
  intro fuel
  induction fuel with
  | zero => intro t S listed a w h; simpa [Region.linearise.go, opsG] using h.2
  | succ fuel ih =>
    intro t S listed a w h
    obtain ⟨h₀, h₁⟩ := h
    simp only [Region.linearise.go]
    change opsG P ops K (match (Region.ready .any ops listed)[t % (Region.ready .any ops listed).length]? with
      | some i => Region.linearise.go .any ops fuel (t / (Region.ready .any ops listed).length) (listed.setIfInBounds i true) [i]
      | none => [].reverse) a w
    cases hi : (Region.ready .any ops listed)[t % (Region.ready .any ops listed).length]? with
    | none =>
      have hnil : Region.ready .any ops listed = [] := by
        cases hr : Region.ready .any ops listed with
        | nil => rfl
        | cons x xs =>
          rw [hr] at hi
          have hlt : t % (x :: xs).length < (x :: xs).length := Nat.mod_lt _ (by simp)
          simp at hi
          simp at hlt
          omega
      simpa [opsG] using h₀ hnil
    | some i =>
      simp only []
      rw [linearise_go_acc, List.reverse_singleton, List.singleton_append]
      exact opG_mono (fun a w ⟨S', _, _, h'⟩ => ih _ S' _ a w h') (h₁ i (List.mem_of_getElem? hi))
theorem anyG_first {K : Act → World → Prop} {i : Nat} {oi : Oper} {v : Value} (hi : ops[i]? = some oi) (hload : isLoad oi = true) (hsel : ∀ (j : Nat) (o : Oper) cs b, ops[j]? = some o → o.op ≠ .select cs b) :
    ∀ (fuel : Nat) (listed : Array Bool) (a : Act) (w : World), closed ops listed →
      (∀ j oj, ops[j]? = some oj → j ≠ i → listed.getD j true = false → (∀ e ∈ oj.after, Region.binds .any e = true → e.on ≠ i) → oi.apart ops oj = true) →
      i ∈ Region.ready .any ops listed → YieldsG P ops S oi v a → S w →
      anyG P ops K fuel S (listed.setIfInBounds i true) (a.put oi.dst v) w → anyG P ops K (fuel + 1) S listed a w := by
  intro fuel
  induction fuel with
  | zero =>
    intro listed a w _ _ hr hy hS H
    refine ⟨fun h => (by rw [h] at hr; cases hr), fun j hj => ?_⟩
    by_cases hji : j = i
    · subst hji; exact hy.opG hi hS ⟨S, fun _ => rfl, hS, H⟩
    · have := ready_mono hj hji
      rw [H.1] at this
      cases this
  | succ fuel ih =>
    intro listed a w hD hfree hr hy hS H
    refine ⟨fun h => (by rw [h] at hr; cases hr), fun j hj => ?_⟩
    by_cases hji : j = i
    · subst hji; exact hy.opG hi hS ⟨S, fun _ => rfl, hS, H⟩
    · have hsk : sinkOnly ops j = false := by
        cases hs : sinkOnly ops j with
        | false => rfl
        | true => exact absurd (sinkOnly_last hD hs hj hr hi hload) hji
      have h1 := H.2 j (ready_mono hj hji)
      obtain ⟨hjun, oj, hoj, hall⟩ := mem_ready.1 hj
      have hnot : ∀ e ∈ oj.after, Region.binds .any e = true → e.on ≠ i := fun e he hb heq => by
        have h1 := hall e he hb
        have h0 := (mem_ready.1 hr).1
        rw [heq] at h1
        exact unl h0 h1
      have h2 := opG_putIf hoj (hfree j oj hoj hji hjun hnot) (fun cs b => hsel i oi cs b hi) (fun cs b => hsel j oj cs b hoj) hy h1
      have hfree' : ∀ k ok, ops[k]? = some ok → k ≠ i → (listed.setIfInBounds j true).getD k true = false →
          (∀ e ∈ ok.after, Region.binds .any e = true → e.on ≠ i) → oi.apart ops ok = true := fun k ok hk hki hun hno => by
        refine hfree k ok hk hki ?_ hno
        by_cases hjk : j = k
        · subst hjk; exact hjun
        · rw [getD_set_ne true hjk] at hun; exact hun
      refine opG_mono ?_ h2
      rintro a' w' ⟨h3, S', hS', h4, h5⟩
      obtain rfl := hS' hsk
      refine ⟨S', fun _ => rfl, h4, ih (listed.setIfInBounds j true) a' w' (closed_set hD hj) hfree' (ready_mono hr (Ne.symm hji)) h3 h4 ?_⟩
      rw [Array.setIfInBounds_comm _ _ hji]
      exact h5
theorem anyG_firstP {K : Act → World → Prop} {i : Nat} {oi : Oper} {v : Value} (hi : ops[i]? = some oi) (hsel : ∀ (j : Nat) (o : Oper) cs b, ops[j]? = some o → o.op ≠ .select cs b) :
    ∀ (fuel : Nat) (S : World → Prop) (listed : Array Bool) (a : Act) (w : World), closed ops listed →
      (∀ j oj, ops[j]? = some oj → j ≠ i → listed.getD j true = false → (∀ e ∈ oj.after, Region.binds .any e = true → e.on ≠ i) → oi.apart ops oj = true) →
      i ∈ Region.ready .any ops listed → YieldsG P ops (fun _ => True) oi v a → S w →
      anyG P ops K fuel S (listed.setIfInBounds i true) (a.put oi.dst v) w → anyG P ops K (fuel + 1) S listed a w := by
  intro fuel
  induction fuel with
  | zero =>
    intro S listed a w _ _ hr hy hS H
    refine ⟨fun h => (by rw [h] at hr; cases hr), fun j hj => ?_⟩
    by_cases hji : j = i
    · subst hji; exact hy.opG hi trivial ⟨S, fun _ => rfl, hS, H⟩
    · have := ready_mono hj hji
      rw [H.1] at this
      cases this
  | succ fuel ih =>
    intro S listed a w hD hfree hr hy hS H
    refine ⟨fun h => (by rw [h] at hr; cases hr), fun j hj => ?_⟩
    by_cases hji : j = i
    · subst hji; exact hy.opG hi trivial ⟨S, fun _ => rfl, hS, H⟩
    · have h1 := H.2 j (ready_mono hj hji)
      obtain ⟨hjun, oj, hoj, hall⟩ := mem_ready.1 hj
      have hnot : ∀ e ∈ oj.after, Region.binds .any e = true → e.on ≠ i := fun e he hb heq => by
        have h1 := hall e he hb
        have h0 := (mem_ready.1 hr).1
        rw [heq] at h1
        exact unl h0 h1
      have h2 := opG_putIf hoj (hfree j oj hoj hji hjun hnot) (fun cs b => hsel i oi cs b hi) (fun cs b => hsel j oj cs b hoj) hy h1
      have hfree' : ∀ k ok, ops[k]? = some ok → k ≠ i → (listed.setIfInBounds j true).getD k true = false →
          (∀ e ∈ ok.after, Region.binds .any e = true → e.on ≠ i) → oi.apart ops ok = true := fun k ok hk hki hun hno => by
        refine hfree k ok hk hki ?_ hno
        by_cases hjk : j = k
        · subst hjk; exact hjun
        · rw [getD_set_ne true hjk] at hun; exact hun
      refine opG_mono ?_ h2
      rintro a' w' ⟨h3, S', hS', h4, h5⟩
      refine ⟨S', hS', h4, ih S' (listed.setIfInBounds j true) a' w' (closed_set hD hj) hfree' (ready_mono hr (Ne.symm hji)) h3 h4 ?_⟩
      rw [Array.setIfInBounds_comm _ _ hji]
      exact h5
theorem anyG_takeP {K : Act → World → Prop} {i : Nat} {oi : Oper} {v : Value} {fuel : Nat} {listed : Array Bool} {a : Act} {w : World} (hD : closed ops listed) (hi : ops[i]? = some oi)
    (hs : Region.noSelect ops = true) (hf : Region.free .any ops listed i = true) (hr : i ∈ Region.ready .any ops listed)
    (hy : YieldsG P ops (fun _ => True) oi v a) (hS : S w)
    (h : anyG P ops K fuel S (listed.setIfInBounds i true) (a.put oi.dst v) w) : anyG P ops K (fuel + 1) S listed a w :=
  anyG_firstP hi (Region.noSelect_spec hs) fuel S listed a w hD (Region.free_spec hi hf) hr hy hS h
theorem anyG_take {K : Act → World → Prop} {i : Nat} {oi : Oper} {v : Value} {fuel : Nat} {listed : Array Bool} {a : Act} {w : World} (hD : closed ops listed) (hi : ops[i]? = some oi) (hload : isLoad oi = true)
    (hs : Region.noSelect ops = true) (hf : Region.free .any ops listed i = true) (hr : i ∈ Region.ready .any ops listed)
    (hy : YieldsG P ops S oi v a) (hS : S w)
    (h : anyG P ops K fuel S (listed.setIfInBounds i true) (a.put oi.dst v) w) : anyG P ops K (fuel + 1) S listed a w :=
  anyG_first hi hload (Region.noSelect_spec hs) fuel listed a w hD (Region.free_spec hi hf) hr hy hS h
theorem anyG_done {K : Act → World → Prop} {listed : Array Bool} {a : Act} {w : World} (hr : Region.ready .any ops listed = []) (h : K a w) : ∀ fuel, anyG P ops K fuel S listed a w
  | 0 => ⟨hr, h⟩
  | _ + 1 => ⟨fun _ => h, by rw [hr]; simp⟩
theorem AtG.regionAny {f : FuncId} {ro : Option Nat} {Fin : CallKind → List Frame → Machine → Prop} {k : List Item} {a : Act} {w : World} (hB : Back P Fin) (hm : P.follows .mixedOrders = true) {id : Nat}
    (h : anyG P ops (fun a w => AtG f ro Fin k a w) ops.size S (Array.replicate ops.size false) a w.drew) : AtG f ro Fin (.code (.region id ops true) :: k) a w := by
  refine fun b cs h1 h3 => hB _ _ _ _ (.one stepR_region_draw) (AtG.ops hB _ _ _ ?_ b cs h1 h3)
  simp only [Region.schedule, hm, Bool.true_or, if_true]
  exact anyG_sound ops.size _ S _ a _ h
end

/-! ## Where an activation ends: a function's, with the marks of its ranges over functions; a round's -/
def marks (ds : List Nat) : List Deferred := ds.map fun D => { target := .collected D, args := #[] }
def FinCalls (P : Program) (f : FuncId) (R : Ending → World → Prop) (kd : CallKind) (cs : List Frame) (m : Machine) : Prop :=
  kd = .normal → ∃ e w' fr, R e w' ∧ Comes P m (lone fr cs w') e ∧ fr.fn = f ∧ fr.leaving P w' e
theorem back_calls {P : Program} {f : FuncId} {R : Ending → World → Prop} : Back P (FinCalls P f R) :=
  fun _ _ _ _ h q hk => let ⟨e, w', fr, hR, hc, hf, hl⟩ := q hk; ⟨e, w', fr, hR, hc.of_steps h, hf, hl⟩
def FinRound (P : Program) (R : Value → World → Prop) (kd : CallKind) (cs : List Frame) (m : Machine) : Prop :=
  kd = .normal → ∀ c cs', cs = c :: cs' → ∃ v w', R v w' ∧ Steps P m (lone (c.finish v) cs' w')
theorem back_round {P : Program} {R : Value → World → Prop} : Back P (FinRound P R) :=
  fun _ _ _ _ h hf hk c cs' e => let ⟨v, w', hR, hs⟩ := hf hk c cs' e; ⟨v, w', hR, h.trans hs⟩
/-- A function's end where deferred calls are still to be made: those laid, then the marks. -/
def FinDoor (P : Program) (f : FuncId) (dl : List Deferred) (D : FrameMode → List Nat → Array Value → World → Prop) (kd : CallKind) (cs : List Frame) (m : Machine) : Prop :=
  kd = .normal → ∃ u tmps w' fr ds, D u ds tmps w' ∧ Steps P m (lone fr cs w') ∧ fr.fn = f ∧ fr.kind = .normal ∧ fr.mode = u ∧ u ≠ .run ∧ fr.defers = dl ++ marks ds ∧ fr.tmps = tmps
theorem back_door {P : Program} {f : FuncId} {dl : List Deferred} {D : FrameMode → List Nat → Array Value → World → Prop} : Back P (FinDoor P f dl D) :=
  fun _ _ _ _ h q hk => let ⟨u, t, w', fr, ds, hD, hs, hf⟩ := q hk; ⟨u, t, w', fr, ds, hD, h.trans hs, hf⟩
/-- A deferred call's end. -/
def FinD (P : Program) (R : Ending → World → Prop) (kd : CallKind) (cs : List Frame) (m : Machine) : Prop :=
  kd = .deferred → ∃ e w' fr, R e w' ∧ Comes P m (lone fr cs w') e ∧ fr.kind = .deferred ∧ fr.going P w' e
theorem back_d {P : Program} {R : Ending → World → Prop} : Back P (FinD P R) :=
  fun _ _ _ _ h q hk => let ⟨e, w', fr, hR, hc, hf⟩ := q hk; ⟨e, w', fr, hR, hc.of_steps h, hf⟩
theorem rounds_of_AtG {P : Program} {l : Nat} {f : FuncId} {tmps : Array Value} {assign body : Code} {w : World} {R : Value → World → Prop}
    (h : AtG f (some l) (FinRound P R) [.code assign, .beginRound, .code body] ⟨tmps, []⟩ w) : Rounds P l f tmps assign body w R := by
  intro c cs
  let b : Frame := { (default : Frame) with fn := f, kind := .normal, roundOf := some l }
  have hb0 : Frame.round l f tmps assign body .normal = b.atR { tmps := tmps, defers := [] } [.code assign, .beginRound, .code body] := by
    simp [Frame.round, Frame.atR, b]
  rw [hb0]
  exact h b (c :: cs) rfl rfl rfl c cs rfl
theorem calls_of_AtG {P : Program} {f : FuncId} {R : Ending → World → Prop} {w : World} {fn : Func} {c : Code} {args : Array Value} (hf : P.funcs[f]? = some fn) (hb : fn.body = some c)
    (h : AtG f none (FinCalls P f R) [.code c] { tmps := args ++ Array.replicate (fn.ntmps - args.size) undef, defers := [] } w) : Calls P f args w R := by
  intro cs
  let b : Frame := { (default : Frame) with fn := f, kind := .normal, roundOf := none }
  have henter : Frame.enter P f args .normal = b.atR { tmps := args ++ Array.replicate (fn.ntmps - args.size) undef, defers := [] } [.code c] := by
    simp [Frame.enter, Frame.atR, hf, hb, b]
  rw [henter]
  exact h b cs rfl rfl rfl
theorem callsD_of_AtG {P : Program} {f : FuncId} {R : Ending → World → Prop} {u : FrameMode} {w : World} {fn : Func} {c : Code} {args : Array Value} (hf : P.funcs[f]? = some fn) (hb : fn.body = some c)
    (h : AtG f none (FinD P R) [.code c] { tmps := args ++ Array.replicate (fn.ntmps - args.size) undef, defers := [] } w) : CallsD P f args u w fun e u' w' => u' = u ∧ R e w' := by
  intro c0 cs hu
  let b : Frame := { (default : Frame) with fn := f, kind := .deferred, roundOf := none }
  have henter : Frame.enter P f args .deferred = b.atR { tmps := args ++ Array.replicate (fn.ntmps - args.size) undef, defers := [] } [.code c] := by
    simp [Frame.enter, Frame.atR, hf, hb, b]
  rw [henter]
  obtain ⟨e, w', fr, hR, hc, hk⟩ := h b (c0 :: cs) rfl rfl rfl
  exact ⟨e, u, w', fr, ⟨rfl, hR⟩, by rw [show ({ c0 with mode := u } : Frame) = c0 by rw [← hu]]; exact hc, hk⟩
/-- One operation. -/
theorem AtG.op1 {P : Program} {f : FuncId} {ro : Option Nat} {Fin : CallKind → List Frame → Machine → Prop} {k : List Item} (hB : Back P Fin) {ops : Array Oper} {i : Nat} {rest : List Nat} {a : Act} {w : World} (h : opG P ops i (fun a w => AtG f ro Fin (.inRegion ops rest :: k) a w) a w) : AtG f ro Fin (.inRegion ops (i :: rest) :: k) a w := by
    intro b cs h1 h3
    simp only [opG] at h
    cases ho : ops[i]? with
    | none =>
      simp only [ho] at h
      have hs := stepR_op_skip (P := P) (b := b) (a := a) (k := k) (cs := cs) (w := w) (ops := ops) (i := i) (rest := rest) (by simp [ho])
      simp only [ho, Option.bind_none, Act.put] at hs
      exact hB _ _ _ _ (.one hs) (h b cs h1 h3)
    | some o =>
      simp only [ho] at h
      by_cases hw : Region.wanted o (yielded ops a.tmps) = true
      · rw [if_pos hw] at h
        obtain ⟨hd, h⟩ := h
        have hg := stepGR_op (P := P) (b := b) (k := k) (cs := cs) (w := w) (rest := rest) ho hw
        rw [Oper.semAt_eq _ _ _ (not_defer hd)] at hg
        have hfin : ∀ v, (b.atR a (.inRegion ops (i :: rest) :: k)).finish v = b.atR (a.put o.dst v) (.inRegion ops rest :: k) := by
          intro v; rw [Frame.finish_atR, ho]; rfl
        cases hr : (execOp a.eval o).run P w with
        | halt x w' => rw [hr] at h; exact h.elim
        | ok n w' =>
          rw [hr] at h
          cases n with
          | value v =>
            refine hB _ _ _ _ (.one (step_lone_go ?_)) (h b cs h1 h3)
            rw [hg, ← hfin]; simp [stepG.apply, hr]
          | skip =>
            refine hB _ _ _ _ (.one (step_lone_go ?_)) (h b cs h1 h3)
            rw [hg, ← hfin]; simp [stepG.apply, hr]
          | enter g args =>
            obtain ⟨e, w'', fr, ⟨v, rfl, hR⟩, hsteps, _, hleave⟩ := h (b.atR a (.inRegion ops (i :: rest) :: k) :: cs)
            have henter : Go.step P (lone (b.atR a (.inRegion ops (i :: rest) :: k)) cs w) =
                .next (lone (Frame.enter P g args .normal) (b.atR a (.inRegion ops (i :: rest) :: k) :: cs) w') :=
              step_lone_go (by rw [hg]; simp [stepG.apply, hr, Frame.atR])
            refine hB _ _ _ _ (.head henter (Steps.trans hsteps (.one ?_))) (hR b cs h1 h3)
            rw [← hfin]; exact step_leave_returned hleave
          | round l g tmps assign body =>
            obtain ⟨v, w'', hR, hsteps⟩ := h (b.atR a (.inRegion ops (i :: rest) :: k)) cs
            have henter : Go.step P (lone (b.atR a (.inRegion ops (i :: rest) :: k)) cs w) =
                .next (lone (Frame.round l g tmps assign body .normal) (b.atR a (.inRegion ops (i :: rest) :: k) :: cs) w') :=
              step_lone_go (by rw [hg]; simp [stepG.apply, hr])
            rw [hfin] at hsteps
            exact hB _ _ _ _ (.head henter hsteps) (hR b cs h1 h3)
          | _ => exact h.elim
      · rw [if_neg hw] at h
        have hs := stepR_op_skip (P := P) (b := b) (a := a) (k := k) (cs := cs) (w := w) (ops := ops) (i := i) (rest := rest) (by simp [ho]; simpa using hw)
        simp only [ho, Option.bind_some] at hs
        exact hB _ _ _ _ (.one hs) (h b cs h1 h3)
/-- A call that ends by a panic. -/
theorem AtG.die {P : Program} {f : FuncId} {ro : Option Nat} {Fin : CallKind → List Frame → Machine → Prop} {k : List Item} (hB : Back P Fin) {ops : Array Oper} {i : Nat} {rest : List Nat} {o : Oper} {a : Act} {w w0 : World} {g : FuncId} {args : Array Value}
    (ho : ops[i]? = some o) (hw : Region.wanted o (yielded ops a.tmps) = true) (hd : isDefer o = false) (hr : (execOp a.eval o).run P w = .ok (.enter g args) w0)
    (h : Calls P g args w0 fun e w' => ∃ ch, e = .panicked ch ∧ ∀ (b : Frame) (cs : List Frame) (k' : List Item), b.fn = f → b.roundOf = ro → Fin b.kind cs (lone { b.atR a k' with mode := .panicking ch } cs w')) : AtG f ro Fin (.inRegion ops (i :: rest) :: k) a w := by
  intro b cs h1 h3
  have hg := stepGR_op (P := P) (b := b) (k := k) (cs := cs) (w := w) (rest := rest) ho hw
  rw [Oper.semAt_eq _ _ _ (not_defer hd)] at hg
  obtain ⟨e, w'', fr, ⟨ch, rfl, hR⟩, hsteps, _, hleave⟩ := h (b.atR a (.inRegion ops (i :: rest) :: k) :: cs)
  have henter : Go.step P (lone (b.atR a (.inRegion ops (i :: rest) :: k)) cs w) =
      .next (lone (Frame.enter P g args .normal) (b.atR a (.inRegion ops (i :: rest) :: k) :: cs) w0) :=
    step_lone_go (by rw [hg]; simp [stepG.apply, hr, Frame.atR])
  have hl := step_leave_panicked (P := P) (c := b.atR a (.inRegion ops (i :: rest) :: k)) (cs := cs) hleave
  rw [Frame.raise_atR] at hl
  exact hB _ _ _ _ (.head henter (Steps.trans hsteps (.one hl))) (hR b cs _ h1 h3)
/-- A defer statement. -/
theorem AtG.defer {P : Program} {f : FuncId} {Fin : CallKind → List Frame → Machine → Prop} {k : List Item} {a : Act} {w : World} (hB : Back P Fin) {ops : Array Oper} {i : Nat} {rest : List Nat} {o : Oper} {c : Call} {d : Deferred}
    (ho : ops[i]? = some o) (hop : o.op = .defer c) (hw : Region.wanted o (yielded ops a.tmps) = true) (hr : (resolve a.eval c o.type).run P w = .ok d w)
    (h : AtG f none Fin (.inRegion ops rest :: k) (({ a with defers := d :: a.defers } : Act).put o.dst undef) w) : AtG f none Fin (.inRegion ops (i :: rest) :: k) a w := by
  intro b cs h1 h3
  refine hB _ _ _ _ (.one (step_lone_go ?_)) (h b cs h1 h3)
  rw [stepGR_op (P := P) (b := b) (k := k) (cs := cs) (w := w) (rest := rest) ho hw, h3, Oper.semAt_none]
  unfold execOp
  rw [hop]
  simp [stepG.apply, hr]
  rw [show ({ b.atR a (.inRegion ops (i :: rest) :: k) with defers := d :: (b.atR a (.inRegion ops (i :: rest) :: k)).defers } : Frame) = b.atR { a with defers := d :: a.defers } (.inRegion ops (i :: rest) :: k) from rfl, Frame.finish_atR, ho]
  rfl
end Go.Proofs.YtnmacidlgadmgaaDoor
