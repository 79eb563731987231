/- The walk as one reckoning, second part: the machine's steps; the condition that a plan of a walk leaves; its soundness. -/
import Derived.Test.YtlinfennhfphiaaDoorEa
namespace Go.Proofs.YtlinfennhfphiaaDoor
open Go.RowKit

/-! ## The function under way, at a list of things to do -/
def At (P : Program) (f : FuncId) (R : Ending → World → Prop) (k : List Item) (a : Act) (w : World) : Prop :=
  ∀ (b : Frame) (cs : List Frame), b.fn = f → b.kind = .normal → ∃ e w' fr, R e w' ∧ Comes P (lone (b.at a k) cs w) (lone fr cs w') e ∧ fr.fn = f ∧ fr.leaving P w' e
section
variable {P : Program} {f : FuncId} {R : Ending → World → Prop} {k : List Item} {a : Act} {w : World}
theorem At.step {k' : List Item} (h : ∀ (b : Frame) (cs : List Frame), step P (lone (b.at a k) cs w) = .next (lone (b.at a k') cs w)) (h' : At P f R k' a w) : At P f R k a w := by
  intro b cs hf hk
  obtain ⟨e, w', fr, hR, hc, hl⟩ := h' b cs hf hk
  exact ⟨e, w', fr, hR, hc.of_steps (.one (h b cs)), hl⟩
def QK (P : Program) (f : FuncId) (R : Ending → World → Prop) (k : List Item) : Exit → Act → World → Prop := fun e a w => e = .normal ∧ At P f R k a w
theorem At.leaf {c : Code} (h : c.wp P (QK P f R k) a w) : At P f R (.code c :: k) a w := by
  intro b cs hf hk
  obtain ⟨e, a', w', ⟨rfl, hA⟩, harr⟩ := h b k cs
  obtain ⟨e, w'', fr, hR, hc, hl⟩ := hA b cs hf hk
  exact ⟨e, w'', fr, hR, hc.of_steps harr, hl⟩
theorem At.ops {ops : Array Oper} {l : List Nat} (h : wpOps P ops (QK P f R k) l a w) : At P f R (.inRegion ops l :: k) a w := by
  intro b cs hf hk
  obtain ⟨e, a', w', ⟨rfl, hA⟩, harr⟩ := wp_ops l a w h b k cs
  obtain ⟨e, w'', fr, hR, hc, hl⟩ := hA b cs hf hk
  exact ⟨e, w'', fr, hR, hc.of_steps harr, hl⟩
theorem At.ret {fn : Func} {v : Value} (hf : P.funcs[f]? = some fn) (hd : a.defers = []) (hr : (results fn a.tmps).run P w = .ok v w) (hR : R (.returned v) w) : At P f R (.code .ret :: k) a w := by
  intro b cs hb hk
  exact ⟨.returned v, w, _, hR, .one step_ret, hb, rfl, hd, hk, fn, by rw [← hf, ← hb]; rfl, hr⟩
theorem At.end {fn : Func} {v : Value} (hf : P.funcs[f]? = some fn) (hd : a.defers = []) (hr : (results fn a.tmps).run P w = .ok v w) (hR : R (.returned v) w) : At P f R [] a w := by
  intro b cs hb hk
  exact ⟨.returned v, w, _, hR, .one step_end, hb, rfl, hd, hk, fn, by rw [← hf, ← hb]; rfl, hr⟩
theorem calls_of_At {fn : Func} {c : Code} {args : Array Value} (hf : P.funcs[f]? = some fn) (hb : fn.body = some c)
    (h : At P f R [.code c] { tmps := args ++ Array.replicate (fn.ntmps - args.size) undef, defers := [] } w) : Calls P f args w R := by
  intro cs
  let b : Frame := { (default : Frame) with fn := f, kind := .normal }
  have henter : Frame.enter P f args .normal = b.at { tmps := args ++ Array.replicate (fn.ntmps - args.size) undef, defers := [] } [.code c] := by
    simp [Frame.enter, Frame.at, hf, hb, b]
  obtain ⟨e, w', fr, hR, hc, hl⟩ := h b cs rfl rfl
  rw [← henter] at hc
  exact ⟨e, w', fr, hR, hc, hl⟩
theorem At.mono {R' : Ending → World → Prop} (h : At P f R k a w) (hr : ∀ e w', R e w' → R' e w') : At P f R' k a w :=
  fun b cs hf hk => let ⟨e, w', fr, hR, rest⟩ := h b cs hf hk; ⟨e, w', fr, hr _ _ hR, rest⟩
/-- A loop, unrolled by a relation. -/
theorem At.loop {c : Code} (I : Act → World → Prop) (μ : Act → World → Nat) (h₀ : I a w)
    (round : ∀ a w, I a w → (∀ a' w', I a' w' → μ a' w' < μ a w → At P f R (.inLoop c :: k) a' w') → At P f R (.code c :: .inLoop c :: k) a w) : At P f R (.code (.loop c) :: k) a w := by
  have key : ∀ n a w, μ a w = n → I a w → At P f R (.code c :: .inLoop c :: k) a w := by
    intro n
    induction n using Nat.strongRecOn with
    | _ n ih =>
      intro a w hn hI
      exact round a w hI fun a' w' hI' hlt => At.step (fun b cs => step_inLoop) (ih (μ a' w') (hn ▸ hlt) a' w' rfl hI')
  exact At.step (fun b cs => step_loop) (key _ a w rfl h₀)
end

/-! ## The state of a walk, and its plan -/
inductive Md where
  | ctl
  | ord (ops : Array Oper) (rest : List Nat)
  | drw (fuel : Nat) (ops : Array Oper) (listed : Array Bool) (cur : Option (Nat × Bool)) (sb : Blks)
structure KS where
  todo : List Item
  tmps : Array Value
  bs : Blks
  gs : Bigs
  md : Md
/-- A step of a plan. -/
inductive Ins where
  | c
  | d (X : List Nat)
  | at (i : Nat) (sole : Bool)
  | setv (s : Nat) (v : Value)
  | setc (k i : Nat) (v : Value)
  | v
  | u
  | own (k : Nat)
  | ext (k : Nat)
  | put (k : Nat)
  | call (v : Value)
  | eq (b : Bool)
  | fact (v : Value)
/-- Within a region? -/
def Ins.inReg : Ins → Bool
  | .c => false
  | .d _ => false
  | _ => true
/-- A plan of a region where an operation that makes memory may come up ahead of others: each order to its end. -/
inductive ROrc where
  | done
  | s (l : List Ins) (o : ROrc)
  | split (s : Nat) (t e : ROrc)
  | new (k : Nat → ROrc)
  | big (z : Int) (k : Option Addr → Nat → ROrc)
  | fork (i j : Nat) (a b : ROrc)
/-- A plan: steps in a row; then: the end, a way that parts, a name for a number, a block's address, a big number. -/
inductive Orc where
  | fin
  | s (l : List Ins) (o : Orc)
  | split (s : Nat) (t e : Orc)
  | gen (s : Nat) (k : Int → Orc)
  | new (k : Nat → Orc)
  | big (z : Int) (k : Option Addr → Nat → Orc)
  | meet (S : (Nat → Nat) → (Nat → Option Addr × Nat) → Array Value × Blks × Bigs) (t : ROrc) (o : (Nat → Nat) → (Nat → Option Addr × Nat) → Orc)
  | loop (I : Nat → (Nat → Int) → Prop) (μ : Nat → (Nat → Int) → Nat) (S : Nat → (Nat → Int) → (Nat → Value) → (Nat → Option Addr × Nat) → Array Value × Blks × Bigs)
      (o : Nat → (Nat → Int) → (Nat → Value) → (Nat → Option Addr × Nat) → Orc)
  | cut (T : List Item) (I : (Nat → Int) → Prop) (S : (Nat → Int) → (Nat → Value) → (Nat → Option Addr × Nat) → Array Value × Blks × Bigs) (t : Orc)
      (o : (Nat → Int) → (Nat → Value) → (Nat → Option Addr × Nat) → Orc)
  | again (d : Nat)
  | ret (ks : List Nat)

def ctl (tmps : Array Value) : List Item → Option (List Item × Md)
  | .code .skip :: k => some (k, .ctl)
  | .code (.label _) :: k => some (k, .ctl)
  | .inBlock _ :: k => some (k, .ctl)
  | .inScope _ :: k => some (k, .ctl)
  | .code (.seq a b) :: k => some (.code a :: .code b :: k, .ctl)
  | .code (.cond c x y) :: k => match Act.eval ⟨tmps, []⟩ c with
    | .bool true => some (.code x :: k, .ctl)
    | .bool false => some (.code y :: k, .ctl)
    | _ => none
  | .code (.block id c) :: k => some (.code c :: .inBlock id :: k, .ctl)
  | .code (.scope c) :: k => some (.code c :: .inScope c :: k, .ctl)
  | .code (.loop c) :: k => some (.code c :: .inLoop c :: k, .ctl)
  | .inLoop c :: k => some (.code c :: .inLoop c :: k, .ctl)
  | .code (.exit id) :: k => (exitTo id k).map (·, .ctl)
  | .code (.goto l) :: k => (gotoIn l k).map (·, .ctl)
  | .code (.region _ ops false) :: k => some (k, .ord ops (List.range ops.size))
  | _ => none
/-- What is to do behind n steps of the function's text, the conditions' answers given. -/
def walkTodo : Nat → List Bool → List Item → List Item
  | 0, _, k => k
  | n + 1, b :: bs, .code (.cond _ x y) :: k => walkTodo n bs (.code (if b then x else y) :: k)
  | n + 1, bs, .code (.region _ _ _) :: k => walkTodo n bs k
  | n + 1, bs, k => match ctl #[] k with
    | some (k', _) => walkTodo n bs k'
    | none => []
/-- The operation that stands next, and the state behind it. -/
def KS.now (s : KS) : Option (Oper × Array Oper) :=
  match s.md with
  | .ord ops (i :: _) => (ops[i]?).map (·, ops)
  | .drw (_ + 1) ops _ (some (i, _)) _ => (ops[i]?).map (·, ops)
  | _ => none
/-- May it write, or make memory? -/
def KS.loud (s : KS) : Bool :=
  match s.md with
  | .ord .. => true
  | .drw _ _ _ (some (_, sole)) _ => sole
  | _ => false
/-- May it write into block k? -/
def KS.may (s : KS) (k : Nat) : Bool :=
  match s.md with
  | .ord .. => true
  | .drw _ ops _ (some (i, true)) sb => sinkOnly ops i || (match sb[k]? with
    | none => true
    | some (_, []) => true
    | _ => false)
  | _ => false
def KS.next (s : KS) : Md :=
  match s.md with
  | .ord ops (_ :: rest) => .ord ops rest
  | .drw (n + 1) ops listed (some (i, _)) sb => .drw n ops (listed.setIfInBounds i true) none sb
  | m => m
/-- Behind a store: where the rest waits for it, what may be looked at is what stands now. -/
def KS.nextP (s : KS) (bs : Blks) : Md :=
  match s.md with
  | .ord ops (_ :: rest) => .ord ops rest
  | .drw (n + 1) ops listed (some (i, _)) sb => .drw n ops (listed.setIfInBounds i true) none (if sinkOnly ops i then bs else sb)
  | m => m
def putAt (tmps : Array Value) (dst : Option Tmp) (v : Value) : Array Value :=
  match dst with
  | some d => tmps.setIfInBounds d v
  | none => tmps
def KS.adv (s : KS) (o : Oper) (v : Value) : KS := ⟨s.todo, putAt s.tmps o.dst v, s.bs, s.gs, s.next⟩
def KS.ev (s : KS) : Operand → Value := Act.eval ⟨s.tmps, []⟩
/-- The blocks that an operation may look at. -/
def KS.blocks (s : KS) : Blks :=
  match s.md with
  | .drw _ _ _ (some (_, false)) sb => sb
  | _ => s.bs
def Ex (w0 : World) (es : Blks) : Prop := ∀ x ∈ es, x.1 < w0.heap.size ∧ ∀ i v, x.2[i]? = some v → w0.cell? ⟨x.1, i, none⟩ = some v
def holds (sb : Blks) (W : World) : Prop := ∀ x ∈ sb, ∀ i v, x.2[i]? = some v → W.cell? ⟨x.1, i, none⟩ = some v
/-- The blocks that are not written, the others with no word on their cells. -/
def blank (X : List Nat) : Nat → Blks → Blks
  | _, [] => []
  | i, x :: r => (if X.contains i then (x.1, []) else x) :: blank X (i + 1) r
def subBlks (sb bs : Blks) : Prop := ∀ (j : Nat) x, sb[j]? = some x → ∃ y, bs[j]? = some y ∧ x.1 = y.1 ∧ (x.2 = [] ∨ x.2 = y.2)
def hold2 (sb es : Blks) (W : World) : Prop := holds sb W ∧ holds es W
def chk (ops : Array Oper) (listed : Array Bool) : Option (Nat × Bool) → Bool
  | none => true
  | some (i, true) => (Region.ready .any ops listed).contains i
  | some (i, false) => (Region.ready .any ops listed).contains i && Region.free .any ops listed i

section
variable (P : Program) (f : FuncId) (R : Ending → World → Prop) (w0 : World) (es : Blks)
def CallV (bs : Blks) (gs : Bigs) (g : FuncId) (args : Array Value) (v : Value) : Prop :=
  ∀ W, St w0 W bs gs → Calls P g args W fun e w' => e = .returned v ∧ Below W.heap.size W w'
def CallB (bs : Blks) (gs : Bigs) (g : FuncId) (args : Array Value) (z : Int) : Prop :=
  ∀ W, St w0 W bs gs → Calls P g args W fun e w' => ∃ A c, e = .returned (.agg #[.bool (sg z), .slice A (nd z) c]) ∧ RB w' A c z ∧ Below W.heap.size W w'
def LeafV (bs : Blks) (gs : Bigs) (v : Value) : Prop := ∀ W, St w0 W bs gs → R (.returned v) W
def FactV (s : Sem Next) (v : Value) : Prop := ∀ W, s.run P W = .ok (.value v) W
def EqV (t : TypeId) (x y : Value) (b : Bool) : Prop := ∀ W, (Op.equalIn 10000 t x y).run P W = .ok b W
def AtM (s : KS) : Prop :=
  match s.md with
  | .ctl => ∀ W, St w0 W s.bs s.gs → At P f R s.todo ⟨s.tmps, []⟩ W
  | .ord ops rest => ∀ W, St w0 W s.bs s.gs → wpOps P ops (QK P f R s.todo) rest ⟨s.tmps, []⟩ W
  | .drw n ops listed cur sb => chk ops listed cur = true → Region.noSelect ops = true → closed ops listed → (Region.ready .any ops listed ≠ [] → subBlks sb s.bs) → ∀ W, St w0 W s.bs s.gs →
    match cur with
    | some (i, true) => ∀ m, n = m + 1 → wpOp P ops (QK P f R s.todo) i (fun a' w' => ∃ S' : World → Prop, (sinkOnly ops i = false → S' = hold2 sb es) ∧ S' w' ∧ wpAnyL P ops (QK P f R s.todo) m S' (listed.setIfInBounds i true) a' w') ⟨s.tmps, []⟩ W
    | _ => wpAnyL P ops (QK P f R s.todo) n (hold2 sb es) listed ⟨s.tmps, []⟩ W
/-- The results' values; ks: the blocks where those lie that lie in variables. -/
def resV (bs : Blks) (tmps : Array Value) : List ResultVar → List Nat → Prop → Option (List Value × Prop)
  | [], _, p => some ([], p)
  | .tmp t :: r, ks, p => (resV bs tmps r ks p).map fun x => (tmps.getD t undef :: x.1, x.2)
  | .cell a t :: r, k :: ks, p =>
    match bs[k]? with
    | some (b, cs) =>
      match loadW P b cs t (tmps.getD a undef) with
      | some (v, q) => (resV bs tmps r ks (q ∧ p)).map fun x => (v :: x.1, x.2)
      | none => none
    | none => none
  | _, _, _ => none
def oneV : List Value → Value
  | [v] => v
  | vs => .tuple vs.toArray
def insW (i : Ins) (s : KS) (K : KS → Prop) : Prop :=
  match i with
  | .c =>
    match s.md with
    | .ctl => match ctl s.tmps s.todo with
      | some (k, md) => K ⟨k, s.tmps, s.bs, s.gs, md⟩
      | none => False
    | .ord _ [] => K ⟨s.todo, s.tmps, s.bs, s.gs, .ctl⟩
    | .drw _ ops listed none _ => match Region.ready .any ops listed with
      | [] => K ⟨s.todo, s.tmps, s.bs, s.gs, .ctl⟩
      | _ => False
    | _ => False
  | .d X =>
    match s.md, s.todo with
    | .ctl, .code (.region _ ops true) :: k => match Region.noSelect ops with
      | true => K ⟨k, s.tmps, s.bs, s.gs, .drw ops.size ops (Array.replicate ops.size false) none (blank X 0 s.bs)⟩
      | false => False
    | _, _ => False
  | .at i sole =>
    match s.md with
    | .drw (n + 1) ops listed none sb =>
      match (if sole then decide (Region.ready .any ops listed = [i]) else chk ops listed (some (i, false))) with
      | true => K ⟨s.todo, s.tmps, s.bs, s.gs, .drw (n + 1) ops listed (some (i, sole)) sb⟩
      | false => False
    | _ => False
  | .setv sl v =>
    match s.tmps[sl]? with
    | some u => u = v ∧ K ⟨s.todo, s.tmps.setIfInBounds sl v, s.bs, s.gs, s.md⟩
    | none => False
  | .setc k i v =>
    match s.bs[k]? with
    | some (b, cs) => match cs[i]? with
      | some u => u = v ∧ K ⟨s.todo, s.tmps, s.bs.set k (b, cs.set i v), s.gs, s.md⟩
      | none => False
    | none => False
  | .v =>
    match s.now with
    | some (op, ops) => match Region.wanted op (yielded ops s.tmps), prun P (execOp s.ev op) with
      | true, some (.value v) => K (s.adv op v)
      | _, _ => False
    | none => False
  | .u =>
    match s.now with
    | some (op, ops) => match Region.wanted op (yielded ops s.tmps) with
      | false => K (s.adv op undef)
      | true => False
    | none => False
  | .own k =>
    match s.now with
    | some (op, ops) => match Region.wanted op (yielded ops s.tmps), s.blocks[k]?, op.op with
      | true, some (b, cs), .load t x => match loadW P b cs t (s.ev x) with
        | some (v, q) => q ∧ K (s.adv op v)
        | none => False
      | _, _, _ => False
    | none => False
  | .ext k =>
    match s.now with
    | some (op, ops) => match Region.wanted op (yielded ops s.tmps), es[k]?, op.op with
      | true, some (b, cs), .load t x => match loadW P b cs t (s.ev x) with
        | some (v, q) => q ∧ K (s.adv op v)
        | none => False
      | _, _, _ => False
    | none => False
  | .put k =>
    match s.now, s.may k with
    | some (op, ops), true => match Region.wanted op (yielded ops s.tmps), s.bs[k]? with
      | true, some (b, cs) => match vrun P b s.gs.isEmpty (execOp s.ev op) cs True with
        | some (.skip, cs', q) => q ∧ K ⟨s.todo, putAt s.tmps op.dst undef, s.bs.set k (b, cs'), s.gs, s.nextP (s.bs.set k (b, cs'))⟩
        | _ => False
      | _, _ => False
    | _, _ => False
  | .call v =>
    match s.now, s.loud with
    | some (op, ops), true => match Region.wanted op (yielded ops s.tmps), prun P (execOp s.ev op) with
      | true, some (.enter g args) => CallV P w0 s.bs s.gs g args v ∧ K (s.adv op v)
      | _, _ => False
    | _, _ => False
  | .eq b =>
    match s.now with
    | some (op, ops) => match Region.wanted op (yielded ops s.tmps), op.op with
      | true, .binOp .eql t x y _ => match s.ev x, s.ev y, prun P (eqGuard .eql t x y (s.ev x) (s.ev y)) with
        | .agg xs, .agg ys, some _ => EqV P t (.agg xs) (.agg ys) b ∧ K (s.adv op (.bool b))
        | _, _, _ => False
      | true, .binOp .neq t x y _ => match s.ev x, s.ev y, prun P (eqGuard .neq t x y (s.ev x) (s.ev y)) with
        | .agg xs, .agg ys, some _ => EqV P t (.agg xs) (.agg ys) b ∧ K (s.adv op (.bool !b))
        | _, _, _ => False
      | _, _ => False
    | none => False
  | .fact v =>
    match s.now with
    | some (op, ops) => match Region.wanted op (yielded ops s.tmps) with
      | true => FactV P (execOp s.ev op) v ∧ K (s.adv op v)
      | false => False
    | none => False
def insL : List Ins → KS → (KS → Prop) → Prop
  | [], s, K => K s
  | i :: l, s, K => insW P w0 es i s fun s' => insL l s' K
def runR : ROrc → KS → (KS → Prop) → Prop
  | .done, s, K =>
    match s.md with
    | .drw _ ops listed none _ => match Region.ready .any ops listed with
      | [] => K s
      | _ => False
    | _ => False
  | .s l o, s, K =>
    match l.all Ins.inReg with
    | true => insL P w0 es l s fun s' => runR o s' K
    | false => False
  | .split sl t e, s, K =>
    match s.tmps[sl]? with
    | some (.bool B) => (B = true → runR t ⟨s.todo, s.tmps.setIfInBounds sl (.bool true), s.bs, s.gs, s.md⟩ K) ∧ (B = false → runR e ⟨s.todo, s.tmps.setIfInBounds sl (.bool false), s.bs, s.gs, s.md⟩ K)
    | _ => False
  | .new k, s, K =>
    match s.now, s.loud with
    | some (op, ops), true => match Region.wanted op (yielded ops s.tmps), nrun P (execOp s.ev op) with
      | true, some (cs, _, kk) => ∀ r, match kk r with
        | some (.value v) => runR (k r) ⟨s.todo, putAt s.tmps op.dst v, s.bs ++ [(r, cs)], s.gs, s.next⟩ K
        | _ => False
      | _, _ => False
    | _, _ => False
  | .big z k, s, K =>
    match s.now, s.loud with
    | some (op, ops), true => match Region.wanted op (yielded ops s.tmps), prun P (execOp s.ev op) with
      | true, some (.enter g args) => CallB P w0 s.bs s.gs g args z ∧ ∀ A c, runR (k A c) ⟨s.todo, putAt s.tmps op.dst (.agg #[.bool (sg z), .slice A (nd z) c]), s.bs, s.gs ++ [(A, c, z)], s.next⟩ K
      | _, _ => False
    | _, _ => False
  | .fork i j a b, s, K =>
    match s.md with
    | .drw (n + 1) ops listed none sb => match decide (Region.ready .any ops listed = [i, j]) with
      | true => runR a ⟨s.todo, s.tmps, s.bs, s.gs, .drw (n + 1) ops listed (some (i, true)) sb⟩ K ∧ runR b ⟨s.todo, s.tmps, s.bs, s.gs, .drw (n + 1) ops listed (some (j, true)) sb⟩ K
      | false => False
    | _ => False
def lite (x : Array Value × Blks × Bigs) (s : KS) : Prop :=
  s.tmps = x.1 ∧ (∃ t, s.bs = x.2.1 ++ t) ∧ x.2.2 ⊆ s.gs
def runW : Orc → List (KS → Prop) → KS → Prop
  | .fin, _, s => AtM P f R w0 es s
  | .s l o, Ls, s => insL P w0 es l s (runW o Ls)
  | .split sl t e, Ls, s =>
    match s.tmps[sl]? with
    | some (.bool B) => (B = true → runW t Ls ⟨s.todo, s.tmps.setIfInBounds sl (.bool true), s.bs, s.gs, s.md⟩) ∧ (B = false → runW e Ls ⟨s.todo, s.tmps.setIfInBounds sl (.bool false), s.bs, s.gs, s.md⟩)
    | _ => False
  | .gen sl k, Ls, s =>
    match s.tmps[sl]? with
    | some (.int κ n) => ∀ x, x = n → runW (k x) Ls ⟨s.todo, s.tmps.setIfInBounds sl (.int κ x), s.bs, s.gs, s.md⟩
    | _ => False
  | .new k, Ls, s =>
    match s.now, s.loud with
    | some (op, ops), true => match Region.wanted op (yielded ops s.tmps), nrun P (execOp s.ev op) with
      | true, some (cs, _, kk) => ∀ r, match kk r with
        | some (.value v) => runW (k r) Ls ⟨s.todo, putAt s.tmps op.dst v, s.bs ++ [(r, cs)], s.gs, s.next⟩
        | _ => False
      | _, _ => False
    | _, _ => False
  | .big z k, Ls, s =>
    match s.now, s.loud with
    | some (op, ops), true => match Region.wanted op (yielded ops s.tmps), prun P (execOp s.ev op) with
      | true, some (.enter g args) => CallB P w0 s.bs s.gs g args z ∧ ∀ A c, runW (k A c) Ls ⟨s.todo, putAt s.tmps op.dst (.agg #[.bool (sg z), .slice A (nd z) c]), s.bs, s.gs ++ [(A, c, z)], s.next⟩
      | _, _ => False
    | _, _ => False
  | .meet S t o, Ls, s =>
    runR P w0 es t s (fun s' => ∃ ρ α, s'.tmps = (S ρ α).1 ∧ s'.bs = (S ρ α).2.1 ∧ s'.gs = (S ρ α).2.2) ∧ ∀ ρ α, runW (o ρ α) Ls ⟨s.todo, (S ρ α).1, (S ρ α).2.1, (S ρ α).2.2, .ctl⟩
  | .loop I μ S o, Ls, s =>
    match s.md with
    | .ctl => (∃ k ξ u α, I k ξ ∧ lite (S k ξ u α) s) ∧
        ∀ k ξ u α, I k ξ → runW (o k ξ u α) ((fun s' => match s'.md with
          | .ctl => s'.todo = s.todo ∧ ∃ k' ξ' u' α', I k' ξ' ∧ μ k' ξ' < μ k ξ ∧ lite (S k' ξ' u' α') s'
          | _ => False) :: Ls) ⟨s.todo, (S k ξ u α).1, (S k ξ u α).2.1, (S k ξ u α).2.2, .ctl⟩
    | _ => False
  | .cut T I S t o, Ls, s =>
    runW t ((fun s' => match s'.md with
      | .ctl => s'.todo = T ∧ ∃ ξ u α, I ξ ∧ lite (S ξ u α) s'
      | _ => False) :: Ls) s ∧ ∀ ξ u α, I ξ → runW (o ξ u α) Ls ⟨T, (S ξ u α).1, (S ξ u α).2.1, (S ξ u α).2.2, .ctl⟩
  | .again d, Ls, s =>
    match Ls[d]? with
    | some L => L s
    | none => False
  | .ret ks, _, s =>
    match s.md, P.funcs[f]? with
    | .ctl, some fn => match s.todo with
      | .code .ret :: _ => match resV P s.bs s.tmps fn.results.toList ks True with
        | some (vs, q) => q ∧ LeafV R w0 s.bs s.gs (oneV vs)
        | none => False
      | [] => match resV P s.bs s.tmps fn.results.toList ks True with
        | some (vs, q) => q ∧ LeafV R w0 s.bs s.gs (oneV vs)
        | none => False
      | _ => False
    | _, _ => False
end
end Go.Proofs.YtlinfennhfphiaaDoor
