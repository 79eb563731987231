/- The second engine, fourth part: the state of a walk, its plan, and the condition that a plan leaves. -/
import Derived.Test.YtnmacidlgadmgaaDoorZc
namespace Go.Proofs.YtnmacidlgadmgaaDoor
open Go.RowKit

/-- Where it is to end: a call; a round of the loop whose record is l. -/
inductive Aim where
  | call (R : Ending → World → Prop)
  | round (l : Nat) (R : Value → World → Prop)
  | door (dl : List Deferred) (D : FrameMode → List Nat → Array Value → World → Prop)
  | late (R : Ending → World → Prop)
def Aim.ro : Aim → Option Nat
  | .round l _ => some l
  | _ => none
def Aim.dl : Aim → List Deferred
  | .door dl _ => dl
  | _ => []
def Aim.fin (P : Program) (f : FuncId) : Aim → CallKind → List Frame → Machine → Prop
  | .call R => FinCalls P f R
  | .round _ R => FinRound P R
  | .door dl D => FinDoor P f dl D
  | .late R => FinD P R
theorem Aim.back {P : Program} {f : FuncId} : ∀ {m : Aim}, Back P (m.fin P f)
  | .call _ => back_calls
  | .round _ _ => back_round
  | .door _ _ => back_door
  | .late _ => back_d
/-- The deferred calls of the activation: what was laid ahead of the walk, and the marks. -/
def mk (m : Aim) (ds : List Nat) : List Deferred := m.dl ++ marks ds
/-- What is known: temporaries, blocks, big numbers, rows, records. -/
structure SD where
  tmps : Array Value
  bs : Blks
  gs : Bigs
  rs : Rws
  os : Lps
structure KX where
  todo : List Item
  tmps : Array Value
  bs : Blks
  gs : Bigs
  rs : Rws
  os : Lps
  md : Md
def KX.sd (s : KX) : SD := ⟨s.tmps, s.bs, s.gs, s.rs, s.os⟩
def SD.at (x : SD) (k : List Item) : KX := ⟨k, x.tmps, x.bs, x.gs, x.rs, x.os, .ctl⟩
/-- What of a region of n operations is done, by bits. -/
def lsB (n m : Nat) : Array Bool := ((List.range n).map (Nat.testBit m)).toArray
theorem lsB_getD (n m j : Nat) (d : Bool) : (lsB n m).getD j d = if j < n then m.testBit j else d := by
  unfold lsB
  by_cases h : j < n
  · rw [if_pos h, Array.getD_eq_getD_getElem?]; simp [h]
  · rw [if_neg h, Array.getD_eq_getD_getElem?]; simp [h]
def rdyM (m n : Nat) (o : Oper) : Bool := o.after.all fun e => !Region.binds .any e || (decide (e.on < n) && m.testBit e.on)
def freM (ops : Array Oper) (m i : Nat) (oi : Oper) : Nat → List Oper → Bool
  | _, [] => true
  | j, o :: r => (j == i || m.testBit j || oi.apart ops o || o.after.any (fun e => Region.binds .any e && e.on == i)) && freM ops m i oi (j + 1) r
def solM (m n i : Nat) : Nat → List Oper → Bool
  | _, [] => true
  | j, o :: r => (j == i || m.testBit j || !rdyM m n o) && solM m n i (j + 1) r
/-- May the i-th come now (ahead of all others; or as the only one)? m: what is done, by bits. -/
def chkM (ops : Array Oper) (m i : Nat) (sole : Bool) : Bool :=
  match ops.toList[i]? with
  | none => false
  | some oi => !m.testBit i && rdyM m ops.size oi && (if sole then solM m ops.size i 0 ops.toList else freM ops m i oi 0 ops.toList)
theorem freM_at {ops : Array Oper} {m i : Nat} {oi : Oper} : ∀ {l : List Oper} {j : Nat}, freM ops m i oi j l = true → ∀ k o, l[k]? = some o → (j + k == i || m.testBit (j + k) || oi.apart ops o || o.after.any (fun e => Region.binds .any e && e.on == i)) = true
  | [], _, _, k, o, hk => by simp at hk
  | x :: r, j, h, 0, o, hk => by
    simp only [freM, Bool.and_eq_true] at h
    obtain rfl : x = o := by simpa using hk
    exact h.1
  | x :: r, j, h, k + 1, o, hk => by
    simp only [freM, Bool.and_eq_true] at h
    have := freM_at h.2 k o (by simpa using hk)
    rwa [show j + 1 + k = j + (k + 1) from by omega] at this
theorem solM_at {m n i : Nat} : ∀ {l : List Oper} {j : Nat}, solM m n i j l = true → ∀ k o, l[k]? = some o → (j + k == i || m.testBit (j + k) || !rdyM m n o) = true
  | [], _, _, k, o, hk => by simp at hk
  | x :: r, j, h, 0, o, hk => by
    simp only [solM, Bool.and_eq_true] at h
    obtain rfl : x = o := by simpa using hk
    exact h.1
  | x :: r, j, h, k + 1, o, hk => by
    simp only [solM, Bool.and_eq_true] at h
    have := solM_at h.2 k o (by simpa using hk)
    rwa [show j + 1 + k = j + (k + 1) from by omega] at this
theorem rdyM_iff {ops : Array Oper} {m : Nat} {o : Oper} : rdyM m ops.size o = true ↔ ∀ e ∈ o.after, Region.binds .any e = true → (lsB ops.size m).getD e.on false = true := by
  unfold rdyM
  rw [Array.all_eq_true']
  constructor
  · intro h e he hb
    have := h e he
    rw [lsB_getD]
    simp only [hb, Bool.not_true, Bool.false_or, Bool.and_eq_true, decide_eq_true_eq] at this
    rw [if_pos this.1]; exact this.2
  · intro h e he
    by_cases hb : Region.binds .any e = true
    · have := h e he hb
      rw [lsB_getD] at this
      split at this
      · rename_i hl; simp [hb, hl, this]
      · cases this
    · simp [hb]
theorem chkM_mem {ops : Array Oper} {m i : Nat} {sole : Bool} (h : chkM ops m i sole = true) : i ∈ Region.ready .any ops (lsB ops.size m) := by
  unfold chkM at h
  cases ho : ops.toList[i]? with
  | none => rw [ho] at h; cases h
  | some oi =>
    rw [ho] at h
    simp only [Bool.and_eq_true, Bool.not_eq_true'] at h
    have ho' : ops[i]? = some oi := by simpa using ho
    have hl := (Array.getElem?_eq_some_iff.1 ho').1
    exact mem_ready.2 ⟨by rw [lsB_getD, if_pos hl]; exact h.1.1, oi, ho', rdyM_iff.1 h.1.2⟩
theorem chkM_free {ops : Array Oper} {m i : Nat} (h : chkM ops m i false = true) : chk ops (lsB ops.size m) (some (i, false)) = true := by
  have hm := chkM_mem h
  unfold chkM at h
  cases ho : ops.toList[i]? with
  | none => rw [ho] at h; cases h
  | some oi =>
    rw [ho] at h
    simp only [Bool.and_eq_true, Bool.false_eq_true, if_false] at h
    have ho' : ops[i]? = some oi := by simpa using ho
    simp only [chk, Bool.and_eq_true, List.contains_iff_mem]
    refine ⟨hm, ?_⟩
    unfold Region.free
    rw [ho']
    simp only [List.all_eq_true, List.mem_range]
    intro j hj
    have hoj : ops[j]? = some ops[j] := Array.getElem?_eq_getElem hj
    have := freM_at h.2 j ops[j] (by rw [Array.getElem?_toList]; exact hoj)
    rw [hoj, lsB_getD, if_pos hj]
    rw [Nat.zero_add] at this
    simp only [Bool.or_eq_true] at this ⊢
    rcases this with ((q | q) | q) | q
    · exact Or.inl (Or.inl q)
    · exact Or.inl (Or.inr q)
    · exact Or.inr (Or.inr q)
    · exact Or.inr (Or.inl q)
theorem only_one {l : List Nat} {i : Nat} (hn : l.Nodup) (hi : i ∈ l) (h : ∀ x ∈ l, x = i) : l = [i] := by
  cases l with
  | nil => cases hi
  | cons a r =>
    obtain rfl := h a (List.mem_cons_self ..)
    cases r with
    | nil => rfl
    | cons b r =>
      have e := h b (List.mem_cons_of_mem _ (List.mem_cons_self ..))
      exact absurd (List.nodup_cons.1 hn).1 (by rw [e]; simp)
theorem chkM_sole {ops : Array Oper} {m i : Nat} (h : chkM ops m i true = true) : Region.ready .any ops (lsB ops.size m) = [i] := by
  have hm := chkM_mem h
  unfold chkM at h
  cases ho : ops.toList[i]? with
  | none => rw [ho] at h; cases h
  | some oi =>
    rw [ho] at h
    simp only [Bool.and_eq_true, if_true] at h
    refine only_one ?_ hm fun j hj => ?_
    · unfold Region.ready; exact List.nodup_range.filter _
    · obtain ⟨h1, oj, hoj, h2⟩ := mem_ready.1 hj
      have hl := (Array.getElem?_eq_some_iff.1 hoj).1
      have := solM_at h.2 j oj (by rw [Array.getElem?_toList]; exact hoj)
      rw [Nat.zero_add] at this
      rw [lsB_getD, if_pos hl] at h1
      simp only [Bool.or_eq_true, beq_iff_eq, h1, Bool.false_eq_true, or_false, rdyM_iff.2 h2, Bool.not_true] at this
      exact this
inductive IX where
  | c
  | d (X : List Nat)
  | at (i : Nat) (sole : Bool)
  | setv (s : Nat) (v : Value)
  | setc (k i : Nat) (v : Value)
  | setb (k : Nat) (cs : List Value)
  | v
  | u
  | own (k : Nat)
  | ext (k : Nat)
  | ld (v : Value)
  | put (k : Nat)
  | putp (k : Nat) (cs : List Value)
  | call (v : Value)
  | eq (b : Bool)
  | fact (v : Value)
  | br (j : Nat)
  | fg (l : List Nat)
  | sel (l : List Nat)
  | lst (m : Nat)
  | nrm (t : Array Value)
  | am (i : Nat) (sole : Bool) (m : Nat)
def IX.inReg : IX → Bool
  | .c => false
  | .d _ => false
  | .br _ => false
  | .sel _ => false
  | _ => true
/-- A plan of a region where several may come up. -/
inductive RX where
  | done
  | s (l : List IX) (o : RX)
  | split (s : Nat) (t e : RX)
  | new (k : Nat → RX)
  | big (z : Int) (k : Option Addr → Nat → RX)
  | fork (i j : Nat) (a b : RX)
  | mut (S : (Nat → Nat) → Value × Blks × Rws) (k : (Nat → Nat) → RX)
inductive OX : Type 1 where
  | fin
  | s (l : List IX) (o : OX)
  | split (s : Nat) (t e : OX)
  | gen (s : Nat) (k : Int → OX)
  | new (k : Nat → OX)
  | big (z : Int) (k : Option Addr → Nat → OX)
  | meet (S : (Nat → Nat) → (Nat → Option Addr × Nat) → SD) (t : RX) (o : (Nat → Nat) → (Nat → Option Addr × Nat) → OX)
  | loop {σ : Type} (I : σ → Prop) (μ : σ → Nat) (S : σ → SD) (o : σ → OX)
  | cut {σ : Type} (T : List Item) (I : σ → Prop) (S : σ → SD) (t : OX) (o : σ → OX)
  | again (d : Nat)
  | mut (S : (Nat → Nat) → Value × Blks × Rws) (k : (Nat → Nat) → OX)
  | yld (S : (Nat → Nat) → Value × Blks × Rws) (k : (Nat → Nat) → OX)
  | app (tgt : Option Nat) (own : Bool) (src : Nat) (news : List Value) (k : Nat → Nat → OX)
  | range (S : (Nat → Nat) → Value × Blks × Rws) (k : (Nat → Nat) → OX)
  | know (p : Prop) (k : OX)
  | ret (ks : List Nat)
  | sem (S : (Nat → Nat) → Value × Blks × Rws) (k : (Nat → Nat) → OX)
  | endr (j : Nat)
  | rest
  | die

def KX.now (s : KX) : Option (Oper × Array Oper) :=
  match s.md with
  | .ord ops (i :: _) => (ops[i]?).map (·, ops)
  | .drw (_ + 1) ops _ (some (i, _)) _ => (ops[i]?).map (·, ops)
  | _ => none
def KX.loud (s : KX) : Bool :=
  match s.md with
  | .ord .. => true
  | .drw _ _ _ (some (_, sole)) _ => sole
  | _ => false
def KX.next (s : KX) : Md :=
  match s.md with
  | .ord ops (_ :: rest) => .ord ops rest
  | .drw (n + 1) ops listed (some (i, _)) sb => .drw n ops (listed.setIfInBounds i true) none sb
  | m => m
/-- Behind what writes: where the rest waits for it, what may be looked at is what stands now. -/
def KX.nextP (s : KX) (bs : Blks) : Md :=
  match s.md with
  | .ord ops (_ :: rest) => .ord ops rest
  | .drw (n + 1) ops listed (some (i, _)) sb => .drw n ops (listed.setIfInBounds i true) none (if sinkOnly ops i then bs else sb)
  | m => m
def KX.adv (s : KX) (o : Oper) (v : Value) : KX := ⟨s.todo, putAt s.tmps o.dst v, s.bs, s.gs, s.rs, s.os, s.next⟩
def KX.wr (s : KX) (o : Oper) (v : Value) (bs : Blks) (rs : Rws) : KX := ⟨s.todo, putAt s.tmps o.dst v, bs, s.gs, rs, s.os, s.nextP bs⟩
def KX.ev (s : KX) : Operand → Value := Act.eval ⟨s.tmps, []⟩
def KX.blocks (s : KX) : Blks :=
  match s.md with
  | .drw _ _ _ (some (_, false)) sb => sb
  | _ => s.bs
/-- Each block is blank, or as it stands in the list. -/
def subC : Blks → Blks → Prop
  | [], _ => True
  | x :: r, [] => x.2 = [] ∧ subC r []
  | x :: r, y :: s => (x.2 = [] ∨ y = x) ∧ subC r s
/-- May it write, so that these are the blocks behind it? -/
def KX.may (s : KX) (bs : Blks) : Prop :=
  match s.md with
  | .ord .. => True
  | .drw _ ops _ (some (i, true)) sb => if sinkOnly ops i then True else subC sb bs
  | _ => False
def liteX (x : SD) (s : KX) : Prop :=
  s.tmps = x.tmps ∧ (∃ t, s.bs = x.bs ++ t) ∧ x.gs ⊆ s.gs ∧ (∀ r ∈ x.rs, r ∈ s.rs) ∧ x.rs.all (fun r => decide (r.1 < x.bs.length)) = true ∧ s.os = x.os
/-- The parts of an append. -/
def appOf (op : Oper) : Option (Operand × Operand × TypeId) :=
  match op.op with
  | .call ⟨.builtin .append, args, tys⟩ => match args.toList, tys.toList with
    | [a, x], [t, t'] => if t = t' then some (a, x, t) else none
    | _, _ => none
  | _ => none
def appG (gs : Bigs) (cap : Nat) (xs : List Value) : Prop :=
  match gs with
  | [] => True
  | _ => match xs with
    | v :: _ => digitless v = true
    | [] => cap = 0
def cellsFrom (cs : List Value) (o n : Nat) : List Value := (cs.drop o).take n
section
variable (P : Program) (f : FuncId) (m : Aim) (B : Base) (es : Blks)
def ExX (B : Base) (es : Blks) : Prop := ∀ x ∈ es, x.1 < B.w.heap.size ∧ ¬ B.X x.1 ∧ ∀ i v, x.2[i]? = some v → B.w.cell? ⟨x.1, i, none⟩ = some v
def CallVX (bs : Blks) (gs : Bigs) (rs : Rws) (os : Lps) (g : FuncId) (args : Array Value) (v : Value) : Prop :=
  ∀ W, Sx B W bs gs rs os → Calls P g args W fun e w' => e = .returned v ∧ Below W.heap.size W w'
def CallBX (bs : Blks) (gs : Bigs) (rs : Rws) (os : Lps) (g : FuncId) (args : Array Value) (z : Int) : Prop :=
  ∀ W, Sx B W bs gs rs os → Calls P g args W fun e w' => ∃ A c, e = .returned (.agg #[.bool (sg z), .slice A (nd z) c]) ∧ RB w' A c z ∧ Below W.heap.size W w'
def CallMX (bs : Blks) (gs : Bigs) (rs : Rws) (os : Lps) (g : FuncId) (args : Array Value) (S : (Nat → Nat) → Value × Blks × Rws) : Prop :=
  ∀ W, Sx B W bs gs rs os → Calls P g args W fun e w' => ∃ ρ, e = .returned (S ρ).1 ∧ (∀ ds, Mk B W ds → Mk B w' ds) ∧ Sx B w' (S ρ).2.1 gs (S ρ).2.2 os
def CallYX (bs : Blks) (gs : Bigs) (rs : Rws) (os : Lps) (x : Sem Next) (S : (Nat → Nat) → Value × Blks × Rws) : Prop :=
  ∀ W, Sx B W bs gs rs os → ∃ l g tmps assign body, x.run P W = .ok (.round l g tmps assign body) W ∧ Rounds P l g tmps assign body W fun v w' => ∃ ρ, v = (S ρ).1 ∧ Mem bs os W w' ∧ Sx B w' (S ρ).2.1 gs (S ρ).2.2 os
/-- An operation whose outcome is told by a proof. -/
def SemX (bs : Blks) (gs : Bigs) (rs : Rws) (os : Lps) (x : Sem Next) (S : (Nat → Nat) → Value × Blks × Rws) : Prop :=
  ∀ W, Sx B W bs gs rs os → ∃ ρ W', x.run P W = .ok (.value (S ρ).1) W' ∧ (∀ ds, Mk B W ds → Mk B W' ds) ∧ Sx B W' (S ρ).2.1 gs (S ρ).2.2 os
def LdX (sb : Blks) (x : Sem Next) (v : Value) : Prop := ∀ W, hold2 sb es W → x.run P W = .ok (.value v) W
def PutX (bs : Blks) (gs : Bigs) (rs : Rws) (os : Lps) (x : Sem Next) (bs' : Blks) : Prop := ∀ W, Sx B W bs gs rs os → ∃ W', x.run P W = .ok .skip W' ∧ Mem bs os W W' ∧ Sx B W' bs' gs rs os
def LeafX (R : Ending → World → Prop) (bs : Blks) (gs : Bigs) (rs : Rws) (os : Lps) (v : Value) : Prop := ∀ W, Sx B W bs gs rs os → R (.returned v) W
def LeafD (D : FrameMode → List Nat → Array Value → World → Prop) (bs : Blks) (gs : Bigs) (rs : Rws) (os : Lps) (tmps : Array Value) : Prop := ∀ W ds, Sx B W bs gs rs os → Mk B W ds → D .returning ds tmps W
/-- Where a panic comes to: the way on of the frame that it ends. -/
def DieX (bs : Blks) (gs : Bigs) (rs : Rws) (os : Lps) (tmps : Array Value) (ch : List PanicEntry) : Prop :=
  match m with
  | .call R => ∀ W, Sx B W bs gs rs os → R (.panicked ch) W
  | .door _ D => ∀ W ds, Sx B W bs gs rs os → Mk B W ds → D (.panicking ch) ds tmps W
  | _ => False
def CallPX (bs : Blks) (gs : Bigs) (rs : Rws) (os : Lps) (g : FuncId) (args : Array Value) (tmps : Array Value) : Prop :=
  ∀ W, Sx B W bs gs rs os → Calls P g args W fun e w' => ∃ ch, e = .panicked ch ∧ Below W.heap.size W w' ∧ DieX m B bs gs rs os tmps ch
def LeafR (R : Value → World → Prop) (bs : Blks) (gs : Bigs) (rs : Rws) (os : Lps) (v : Value) : Prop := ∀ W, Sx B W bs gs rs os → R v W
def insX (i : IX) (s : KX) (K : KX → Prop) : Prop :=
  match i with
  | .c =>
    match s.md with
    | .ctl => match ctl s.tmps s.todo with
      | some (k, md) => K ⟨k, s.tmps, s.bs, s.gs, s.rs, s.os, md⟩
      | none => False
    | .ord _ [] => K ⟨s.todo, s.tmps, s.bs, s.gs, s.rs, s.os, .ctl⟩
    | .drw _ ops listed none _ => match Region.ready .any ops listed with
      | [] => K ⟨s.todo, s.tmps, s.bs, s.gs, s.rs, s.os, .ctl⟩
      | _ => False
    | _ => False
  | .d X =>
    match s.md, s.todo with
    | .ctl, .code (.region _ ops true) :: k => match Region.noSelect ops with
      | true => K ⟨k, s.tmps, s.bs, s.gs, s.rs, s.os, .drw ops.size ops (Array.replicate ops.size false) none (blank X 0 s.bs)⟩
      | false => False
    | _, _ => False
  | .at i sole =>
    match s.md with
    | .drw (n + 1) ops listed none sb =>
      match (if sole then decide (Region.ready .any ops listed = [i]) else chk ops listed (some (i, false))) with
      | true => K ⟨s.todo, s.tmps, s.bs, s.gs, s.rs, s.os, .drw (n + 1) ops listed (some (i, sole)) sb⟩
      | false => False
    | _ => False
  | .setv sl v =>
    match s.tmps[sl]? with
    | some u => u = v ∧ K ⟨s.todo, s.tmps.setIfInBounds sl v, s.bs, s.gs, s.rs, s.os, s.md⟩
    | none => False
  | .setc k i v =>
    match s.bs[k]? with
    | some (b, cs) => match cs[i]? with
      | some u => u = v ∧ K ⟨s.todo, s.tmps, s.bs.set k (b, cs.set i v), s.gs, s.rs, s.os, s.md⟩
      | none => False
    | none => False
  | .setb k cs' =>
    match s.bs[k]? with
    | some (b, cs) => cs = cs' ∧ K ⟨s.todo, s.tmps, s.bs.set k (b, cs'), s.gs, s.rs, s.os, s.md⟩
    | none => False
  | .v =>
    match s.now with
    | some (op, ops) => match Region.wanted op (yielded ops s.tmps), prun P (execOp s.ev op), isDefer op with
      | true, some (.value v), false => K (s.adv op v)
      | _, _, _ => False
    | none => False
  | .u =>
    match s.now with
    | some (op, ops) => match Region.wanted op (yielded ops s.tmps), isDefer op with
      | false, false => K (s.adv op undef)
      | _, _ => False
    | none => False
  | .own k =>
    match s.now with
    | some (op, ops) => match Region.wanted op (yielded ops s.tmps), s.blocks[k]?, op.op with
      | true, some (b, cs), .load t x => match loadW P b cs t (s.ev x) with
        | some (v, q) => q ∧ K (s.adv op v)
        | none => False
      | _, _, _ => False
    | none => False
  | .ext k =>
    match s.now with
    | some (op, ops) => match Region.wanted op (yielded ops s.tmps), es[k]?, op.op with
      | true, some (b, cs), .load t x => match loadW P b cs t (s.ev x) with
        | some (v, q) => q ∧ K (s.adv op v)
        | none => False
      | _, _, _ => False
    | none => False
  | .ld v =>
    match s.now with
    | some (op, ops) => match Region.wanted op (yielded ops s.tmps), isLoad op with
      | true, true => LdX P es s.blocks (execOp s.ev op) v ∧ K (s.adv op v)
      | _, _ => False
    | none => False
  | .put k =>
    match s.now, s.loud with
    | some (op, ops), true => match Region.wanted op (yielded ops s.tmps), s.bs[k]?, isDefer op with
      | true, some (b, cs), false => match vrun P b s.gs.isEmpty (execOp s.ev op) cs True with
        | some (.skip, cs', q) => q ∧ s.may (s.bs.set k (b, cs')) ∧ K (s.wr op undef (s.bs.set k (b, cs')) s.rs)
        | _ => False
      | _, _, _ => False
    | _, _ => False
  | .putp k cs' =>
    match s.now, s.loud with
    | some (op, ops), true => match Region.wanted op (yielded ops s.tmps), s.bs[k]?, isDefer op with
      | true, some (b, _), false => PutX P B s.bs s.gs s.rs s.os (execOp s.ev op) (s.bs.set k (b, cs')) ∧ s.may (s.bs.set k (b, cs')) ∧ K (s.wr op undef (s.bs.set k (b, cs')) s.rs)
      | _, _, _ => False
    | _, _ => False
  | .call v =>
    match s.now, s.loud with
    | some (op, ops), true => match Region.wanted op (yielded ops s.tmps), prun P (execOp s.ev op), isDefer op with
      | true, some (.enter g args), false => CallVX P B s.bs s.gs s.rs s.os g args v ∧ K (s.adv op v)
      | _, _, _ => False
    | _, _ => False
  | .eq b =>
    match s.now with
    | some (op, ops) => match Region.wanted op (yielded ops s.tmps), op.op with
      | true, .binOp .eql t x y _ => match s.ev x, s.ev y, prun P (eqGuard .eql t x y (s.ev x) (s.ev y)) with
        | .agg xs, .agg ys, some _ => EqV P t (.agg xs) (.agg ys) b ∧ K (s.adv op (.bool b))
        | _, _, _ => False
      | true, .binOp .neq t x y _ => match s.ev x, s.ev y, prun P (eqGuard .neq t x y (s.ev x) (s.ev y)) with
        | .agg xs, .agg ys, some _ => EqV P t (.agg xs) (.agg ys) b ∧ K (s.adv op (.bool !b))
        | _, _, _ => False
      | _, _ => False
    | none => False
  | .fact v =>
    match s.now with
    | some (op, ops) => match Region.wanted op (yielded ops s.tmps), isDefer op with
      | true, false => FactV P (execOp s.ev op) v ∧ K (s.adv op v)
      | _, _ => False
    | none => False
  | .br j =>
    match s.md, s.todo, s.os[j]?, m.ro with
    | .ctl, .beginRound :: k, some (l, r), some l' => l = l' ∧ r.state = .ready ∧ K ⟨k, s.tmps, s.bs, s.gs, s.rs, s.os.set j (l, { r with state := .busy }), .ctl⟩
    | _, _, _, _ => False
  | .fg l => K ⟨s.todo, s.tmps, s.bs, l.filterMap (s.gs[·]?), s.rs, s.os, s.md⟩
  | .am i sole m' =>
    match s.md with
    | .drw (n + 1) ops listed none sb => match chkM ops m' i sole with
      | true => listed = lsB ops.size m' ∧ K ⟨s.todo, s.tmps, s.bs, s.gs, s.rs, s.os, .drw (n + 1) ops (lsB ops.size m') (some (i, sole)) sb⟩
      | false => False
    | _ => False
  | .nrm t => s.tmps = t ∧ K ⟨s.todo, t, s.bs, s.gs, s.rs, s.os, s.md⟩
  | .lst m' =>
    match s.md with
    | .drw n ops listed none sb => listed = lsB ops.size m' ∧ K ⟨s.todo, s.tmps, s.bs, s.gs, s.rs, s.os, .drw n ops (lsB ops.size m') none sb⟩
    | _ => False
  | .sel l =>
    match s.md, decide (l.all (fun i => decide (i < s.bs.length)) = true ∧ l.Nodup) with
    | .ctl, true => K ⟨s.todo, s.tmps, pick l s.bs, s.gs, s.rs.filterMap fun r => (l.idxOf? r.1).map (·, r.2), s.os, .ctl⟩
    | _, _ => False
def insXL : List IX → KX → (KX → Prop) → Prop
  | [], s, K => K s
  | i :: l, s, K => insX P m B es i s fun s' => insXL l s' K
def runR' : RX → KX → (KX → Prop) → Prop
  | .done, s, K =>
    match s.md with
    | .drw _ ops listed none _ => match Region.ready .any ops listed with
      | [] => K s
      | _ => False
    | _ => False
  | .s l o, s, K =>
    match l.all IX.inReg with
    | true => insXL P m B es l s fun s' => runR' o s' K
    | false => False
  | .split sl t e, s, K =>
    match s.tmps[sl]? with
    | some (.bool b) => (b = true → runR' t ⟨s.todo, s.tmps.setIfInBounds sl (.bool true), s.bs, s.gs, s.rs, s.os, s.md⟩ K) ∧ (b = false → runR' e ⟨s.todo, s.tmps.setIfInBounds sl (.bool false), s.bs, s.gs, s.rs, s.os, s.md⟩ K)
    | _ => False
  | .new k, s, K =>
    match s.now, s.loud with
    | some (op, ops), true => match Region.wanted op (yielded ops s.tmps), nrun P (execOp s.ev op), isDefer op with
      | true, some (cs, t, kk), false => ∀ r, match kk r with
        | some (.value v) => runR' (k r) ⟨s.todo, putAt s.tmps op.dst v, s.bs ++ [(r, cs)], s.gs, s.rs ++ [(s.bs.length, t, cs.length)], s.os, s.next⟩ K
        | _ => False
      | _, _, _ => False
    | _, _ => False
  | .big z k, s, K =>
    match s.now, s.loud with
    | some (op, ops), true => match Region.wanted op (yielded ops s.tmps), prun P (execOp s.ev op), isDefer op with
      | true, some (.enter g args), false => CallBX P B s.bs s.gs s.rs s.os g args z ∧ ∀ A c, runR' (k A c) ⟨s.todo, putAt s.tmps op.dst (.agg #[.bool (sg z), .slice A (nd z) c]), s.bs, s.gs ++ [(A, c, z)], s.rs, s.os, s.next⟩ K
      | _, _, _ => False
    | _, _ => False
  | .fork i j a b, s, K =>
    match s.md with
    | .drw (n + 1) ops listed none sb => match decide (Region.ready .any ops listed = [i, j]) with
      | true => runR' a ⟨s.todo, s.tmps, s.bs, s.gs, s.rs, s.os, .drw (n + 1) ops listed (some (i, true)) sb⟩ K ∧ runR' b ⟨s.todo, s.tmps, s.bs, s.gs, s.rs, s.os, .drw (n + 1) ops listed (some (j, true)) sb⟩ K
      | false => False
    | _ => False
  | .mut S k, s, K =>
    match s.now, s.loud with
    | some (op, ops), true => match Region.wanted op (yielded ops s.tmps), prun P (execOp s.ev op), isDefer op with
      | true, some (.enter g args), false => CallMX P B s.bs s.gs s.rs s.os g args S ∧ ∀ ρ, s.may (S ρ).2.1 ∧ runR' (k ρ) (s.wr op (S ρ).1 (S ρ).2.1 (S ρ).2.2) K
      | _, _, _ => False
    | _, _ => False
/-- The block where the new cells of an append lie. -/
def srcOf (s : KX) (own : Bool) (k : Nat) : Option (Nat × List Value) := if own then s.bs[k]? else es[k]?
def runX : OX → List (KX → Prop) → KX → Prop
  | .fin, _, _ => False
  | .s l o, Ls, s => insXL P m B es l s (runX o Ls)
  | .split sl t e, Ls, s =>
    match s.tmps[sl]? with
    | some (.bool b) => (b = true → runX t Ls ⟨s.todo, s.tmps.setIfInBounds sl (.bool true), s.bs, s.gs, s.rs, s.os, s.md⟩) ∧ (b = false → runX e Ls ⟨s.todo, s.tmps.setIfInBounds sl (.bool false), s.bs, s.gs, s.rs, s.os, s.md⟩)
    | _ => False
  | .gen sl k, Ls, s =>
    match s.tmps[sl]? with
    | some (.int κ n) => ∀ x, x = n → runX (k x) Ls ⟨s.todo, s.tmps.setIfInBounds sl (.int κ x), s.bs, s.gs, s.rs, s.os, s.md⟩
    | _ => False
  | .new k, Ls, s =>
    match s.now, s.loud with
    | some (op, ops), true => match Region.wanted op (yielded ops s.tmps), nrun P (execOp s.ev op), isDefer op with
      | true, some (cs, t, kk), false => ∀ r, match kk r with
        | some (.value v) => runX (k r) Ls ⟨s.todo, putAt s.tmps op.dst v, s.bs ++ [(r, cs)], s.gs, s.rs ++ [(s.bs.length, t, cs.length)], s.os, s.next⟩
        | _ => False
      | _, _, _ => False
    | _, _ => False
  | .big z k, Ls, s =>
    match s.now, s.loud with
    | some (op, ops), true => match Region.wanted op (yielded ops s.tmps), prun P (execOp s.ev op), isDefer op with
      | true, some (.enter g args), false => CallBX P B s.bs s.gs s.rs s.os g args z ∧ ∀ A c, runX (k A c) Ls ⟨s.todo, putAt s.tmps op.dst (.agg #[.bool (sg z), .slice A (nd z) c]), s.bs, s.gs ++ [(A, c, z)], s.rs, s.os, s.next⟩
      | _, _, _ => False
    | _, _ => False
  | .meet S t o, Ls, s =>
    runR' P m B es t s (fun s' => ∃ ρ α, s'.sd = S ρ α) ∧ ∀ ρ α, runX (o ρ α) Ls ((S ρ α).at s.todo)
  | .loop I μ S o, Ls, s =>
    match s.md with
    | .ctl => (∃ ξ, I ξ ∧ liteX (S ξ) s) ∧
        ∀ ξ, I ξ → runX (o ξ) ((fun s' => match s'.md with
          | .ctl => s'.todo = s.todo ∧ ∃ ξ', I ξ' ∧ μ ξ' < μ ξ ∧ liteX (S ξ') s'
          | _ => False) :: Ls) ((S ξ).at s.todo)
    | _ => False
  | .cut T I S t o, Ls, s =>
    runX t ((fun s' => match s'.md with
      | .ctl => s'.todo = T ∧ ∃ ξ, I ξ ∧ liteX (S ξ) s'
      | _ => False) :: Ls) s ∧ ∀ ξ, I ξ → runX (o ξ) Ls ((S ξ).at T)
  | .again d, Ls, s =>
    match Ls[d]? with
    | some L => L s
    | none => False
  | .mut S k, Ls, s =>
    match s.now, s.loud with
    | some (op, ops), true => match Region.wanted op (yielded ops s.tmps), prun P (execOp s.ev op), isDefer op with
      | true, some (.enter g args), false => CallMX P B s.bs s.gs s.rs s.os g args S ∧ ∀ ρ, s.may (S ρ).2.1 ∧ runX (k ρ) Ls (s.wr op (S ρ).1 (S ρ).2.1 (S ρ).2.2)
      | _, _, _ => False
    | _, _ => False
  | .yld S k, Ls, s =>
    match s.now, s.loud with
    | some (op, ops), true => match Region.wanted op (yielded ops s.tmps), isDefer op with
      | true, false => CallYX P B s.bs s.gs s.rs s.os (execOp s.ev op) S ∧ ∀ ρ, s.may (S ρ).2.1 ∧ runX (k ρ) Ls (s.wr op (S ρ).1 (S ρ).2.1 (S ρ).2.2)
      | _, _ => False
    | _, _ => False
  | .sem S k, Ls, s =>
    match s.now, s.loud with
    | some (op, ops), true => match Region.wanted op (yielded ops s.tmps), isDefer op with
      | true, false => SemX P B s.bs s.gs s.rs s.os (execOp s.ev op) S ∧ ∀ ρ, s.may (S ρ).2.1 ∧ runX (k ρ) Ls (s.wr op (S ρ).1 (S ρ).2.1 (S ρ).2.2)
      | _, _ => False
    | _, _ => False
  | .app tgt own src news k, Ls, s =>
    match s.now, s.loud with
    | some (op, ops), true => match Region.wanted op (yielded ops s.tmps), appOf op with
      | true, some (x, y, t) => match P.underlying t, srcOf es s own src, s.ev x, s.ev y with
        | some (.slice e), some (b2, cs2), .slice A n cap, .slice (some ⟨b2', o2, none⟩) mm _ => match P.info? e with
          | some i => match i.zero, tgt with
            | some z, none =>
              (A = none ∧ n = 0 ∧ cap = 0 ∧ b2' = b2 ∧ z.cells.size = i.size ∧ news = cellsFrom cs2 o2 (mm * i.size) ∧ news.length = mm * i.size ∧ 0 < mm ∧ mm ≤ maxLen ∧ mm * i.bytes ≤ 140737488355328) ∧
                ∀ g' cap', mm ≤ cap' → cap' ≤ maxLen → s.may (s.bs ++ [(g', news)]) ∧ runX (k g' cap') Ls (s.wr op (.slice (some ⟨g', 0, none⟩) mm cap') (s.bs ++ [(g', news)]) (s.rs ++ [(s.bs.length, e, cap' * i.size)]))
            | some z, some kk => match s.bs[kk]? with
              | some (g, xs) =>
                (A = some ⟨g, 0, none⟩ ∧ (kk, e, cap * i.size) ∈ s.rs ∧ xs.length = n * i.size ∧ n ≤ cap ∧ cap ≤ maxLen ∧ appG s.gs cap xs ∧ b2' = b2 ∧ z.cells.size = i.size ∧ news = cellsFrom cs2 o2 (mm * i.size) ∧ news.length = mm * i.size ∧
                  (∀ u ∈ news, u.oneCell' = true) ∧ n + mm ≤ maxLen ∧ (n + mm) * i.bytes ≤ 140737488355328) ∧
                  ∀ g' cap', n + mm ≤ cap' → cap' ≤ maxLen → s.may (s.bs.set kk (g', xs ++ news)) ∧ runX (k g' cap') Ls (s.wr op (.slice (some ⟨g', 0, none⟩) (n + mm) cap') (s.bs.set kk (g', xs ++ news)) (rowSet s.rs kk e (cap' * i.size)))
              | none => False
            | _, _ => False
          | none => False
        | _, _, _, _ => False
      | _, _ => False
    | _, _ => False
  | .range S k, Ls, s =>
    match s.md, s.todo, m.ro, m.dl with
    | .ctl, .code (.rangeFunc g ps assign body) :: kk, none, [] =>
      (∀ l D, match prun P (resolve s.ev (rangeCall g l) 0) with
        | some d => match prun P (invoke d.target d.args) with
          | some (.enter gf args) => CallMX P B s.bs s.gs s.rs (s.os ++ [(l, { state := .ready, pending := none, fn := f, tmps := s.tmps, params := ps, assign := assign, body := body, defers := D })]) gf args S
          | _ => False
        | none => False) ∧ ∀ ρ, runX (k ρ) Ls ⟨kk, s.tmps, (S ρ).2.1, s.gs, (S ρ).2.2, s.os, .ctl⟩
    | _, _, _, _ => False
  | .know p k, Ls, s => p ∧ (p → runX k Ls s)
  | .ret ks, _, s =>
    match s.md, P.funcs[f]?, m with
    | .ctl, some fn, .call R => match s.todo with
      | .code .ret :: _ => match resV P s.bs s.tmps fn.results.toList ks True with
        | some (vs, q) => q ∧ LeafX B R s.bs s.gs s.rs s.os (oneV vs)
        | none => False
      | [] => match resV P s.bs s.tmps fn.results.toList ks True with
        | some (vs, q) => q ∧ LeafX B R s.bs s.gs s.rs s.os (oneV vs)
        | none => False
      | _ => False
    | .ctl, some fn, .late R => match s.todo with
      | .code .ret :: _ => match resV P s.bs s.tmps fn.results.toList ks True with
        | some (vs, q) => q ∧ LeafX B R s.bs s.gs s.rs s.os (oneV vs)
        | none => False
      | [] => match resV P s.bs s.tmps fn.results.toList ks True with
        | some (vs, q) => q ∧ LeafX B R s.bs s.gs s.rs s.os (oneV vs)
        | none => False
      | _ => False
    | .ctl, some _, .door _ D => match s.todo with
      | .code .ret :: _ => LeafD B D s.bs s.gs s.rs s.os s.tmps
      | [] => LeafD B D s.bs s.gs s.rs s.os s.tmps
      | _ => False
    | _, _, _ => False
  | .endr j, _, s =>
    match s.md, m, s.os[j]? with
    | .ctl, .round l R, some (l', r) => match s.todo with
      | [] => l' = l ∧ LeafR B R s.bs s.gs s.rs (s.os.set j (l', { r with state := .ready, pending := none })) (.bool true)
      | .code .ret :: _ => l' = l ∧ LeafR B R s.bs s.gs s.rs (s.os.set j (l', { r with state := .done, pending := some .ret })) (.bool false)
      | _ => False
    | _, _, _ => False
  | .rest, _, s =>
    match s.md, s.todo, m.ro with
    | .ctl, .code (.region _ ops false) :: k, none => match ops.toList with
      | [o0, o1] => match Region.wanted o0 (yielded ops s.tmps), isDefer o0, prun P (execOp s.ev o0), o1.op with
        | true, false, some (.value v), .defer c => match Region.wanted o1 (yielded ops (putAt s.tmps o0.dst v)), prun P (resolve (Act.eval ⟨putAt s.tmps o0.dst v, []⟩) c o1.type) with
          | true, some d => ∀ W ds, Sx B W s.bs s.gs s.rs s.os → Mk B W ds → AtG f none (m.fin P f) k ⟨putAt (putAt s.tmps o0.dst v) o1.dst undef, d :: mk m ds⟩ W
          | _, _ => False
        | _, _, _, _ => False
      | _ => False
    | _, _, _ => False
  | .die, _, s =>
    match s.md, s.now, P.funcs[f]? with
    | .ord .., some (op, ops), some _ => match Region.wanted op (yielded ops s.tmps), prun P (execOp s.ev op), isDefer op with
      | true, some (.enter g args), false => CallPX P m B s.bs s.gs s.rs s.os g args s.tmps
      | _, _, _ => False
    | _, _, _ => False
end
end Go.Proofs.YtnmacidlgadmgaaDoor
