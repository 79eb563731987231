/- A deferred function that begins by recover; parse.Get's. -/
import Derived.Test.YtnmacidlgadmgaaDoorPd
import Derived.Recover
namespace Go.Proofs.YtnmacidlgadmgaaDoor
open Go.RowKit
set_option linter.unusedSimpArgs false
set_option linter.unusedVariables false
theorem callsD_rec {P : Program} {f : FuncId} {R : Ending → World → Prop} {u u' : FrameMode} {r v1 : Value} {w : World} {fn : Func} {args tmps tmps2 : Array Value} {id : Nat} {o0 o1 : Oper} {rest : Code}
    (hf : P.funcs[f]? = some fn) (hb : fn.body = some (.seq (.region id #[o0, o1] false) rest)) (ht : args ++ Array.replicate (fn.ntmps - args.size) undef = tmps)
    (hu : ∀ (c : Frame) (cs : List Frame), c.mode = u → (recoverD (c :: cs) = some (r, { c with mode := u' } :: cs) ∨ (recoverD (c :: cs) = none ∧ r = .nilIface ∧ u' = u)))
    (hw0 : Region.wanted o0 (yielded #[o0, o1] tmps) = true) (hd0 : isDefer o0 = false) (hr0 : (execOp (Act.eval ⟨tmps, []⟩) o0).run P w = .ok .recover w)
    (hw1 : Region.wanted o1 (yielded #[o0, o1] (putAt tmps o0.dst r)) = true) (hd1 : isDefer o1 = false) (hr1 : (execOp (Act.eval ⟨putAt tmps o0.dst r, []⟩) o1).run P w = .ok (.value v1) w)
    (h2 : putAt (putAt tmps o0.dst r) o1.dst v1 = tmps2) (h : AtG f none (FinD P R) [.code rest] ⟨tmps2, []⟩ w) : CallsD P f args u w fun e x w' => x = u' ∧ R e w' := by
  subst h2
  intro c0 cs hc0
  let b : Frame := { (default : Frame) with fn := f, kind := .deferred, roundOf := none }
  have henter : Frame.enter P f args .deferred = b.atR { tmps := tmps, defers := [] } [.code (.seq (.region id #[o0, o1] false) rest)] := by
    rw [← ht]; simp [Frame.enter, Frame.atR, hf, hb, b]
  rw [henter]
  have s1 : Go.step P (lone (b.atR ⟨tmps, []⟩ [.code (.seq (.region id #[o0, o1] false) rest)]) (c0 :: cs) w) = .next (lone (b.atR ⟨tmps, []⟩ [.code (.region id #[o0, o1] false), .code rest]) (c0 :: cs) w) := stepR_seq
  have s2 : Go.step P (lone (b.atR ⟨tmps, []⟩ [.code (.region id #[o0, o1] false), .code rest]) (c0 :: cs) w) = .next (lone (b.atR ⟨tmps, []⟩ [.inRegion #[o0, o1] [0, 1], .code rest]) (c0 :: cs) w) := stepR_region
  have hfin0 : ∀ v, (b.atR ⟨tmps, []⟩ [.inRegion #[o0, o1] [0, 1], .code rest]).finish v = b.atR ⟨putAt tmps o0.dst v, []⟩ [.inRegion #[o0, o1] [1], .code rest] := by
    intro v
    rw [Frame.finish_atR]
    show b.atR ((Act.mk tmps []).put o0.dst v) _ = _
    rw [putX_at]
  have s3 : Go.step P (lone (b.atR ⟨tmps, []⟩ [.inRegion #[o0, o1] [0, 1], .code rest]) (c0 :: cs) w) = .next (lone (b.atR ⟨putAt tmps o0.dst r, []⟩ [.inRegion #[o0, o1] [1], .code rest]) ({ c0 with mode := u' } :: cs) w) := by
    have hg := stepGR_op (P := P) (b := b) (a := ⟨tmps, []⟩) (k := [.code rest]) (cs := c0 :: cs) (w := w) (ops := #[o0, o1]) (i := 0) (rest := [1]) (o := o0) rfl hw0
    rw [Oper.semAt_eq _ _ _ (not_defer hd0)] at hg
    have htr := tryRecover_deferred (fr := b.atR ⟨tmps, []⟩ [.inRegion #[o0, o1] [0, 1], .code rest]) rfl (c0 :: cs)
    have hro : b.roundOf = none := rfl
    refine step_lone_go ?_
    rw [hg, ← hfin0]
    rcases hu c0 cs hc0 with q | ⟨q, rfl, rfl⟩
    · rw [q] at htr; simp only [Frame.atR, hro] at htr ⊢; simp [stepG.apply, hr0, htr]
    · rw [q] at htr
      have e : ({ c0 with mode := u' } : Frame) = c0 := by rw [← hc0]
      rw [e]
      simp only [Frame.atR, hro] at htr ⊢; simp [stepG.apply, hr0, htr]
  have s4 : Go.step P (lone (b.atR ⟨putAt tmps o0.dst r, []⟩ [.inRegion #[o0, o1] [1], .code rest]) ({ c0 with mode := u' } :: cs) w) = .next (lone (b.atR ⟨putAt (putAt tmps o0.dst r) o1.dst v1, []⟩ [.inRegion #[o0, o1] [], .code rest]) ({ c0 with mode := u' } :: cs) w) := by
    have hg := stepGR_op (P := P) (b := b) (a := ⟨putAt tmps o0.dst r, []⟩) (k := [.code rest]) (cs := { c0 with mode := u' } :: cs) (w := w) (ops := #[o0, o1]) (i := 1) (rest := []) (o := o1) rfl hw1
    rw [Oper.semAt_eq _ _ _ (not_defer hd1)] at hg
    have hfin : ∀ v, (b.atR ⟨putAt tmps o0.dst r, []⟩ [.inRegion #[o0, o1] [1], .code rest]).finish v = b.atR ⟨putAt (putAt tmps o0.dst r) o1.dst v, []⟩ [.inRegion #[o0, o1] [], .code rest] := by
      intro v
      rw [Frame.finish_atR]
      show b.atR ((Act.mk (putAt tmps o0.dst r) []).put o1.dst v) _ = _
      rw [putX_at]
    refine step_lone_go ?_
    rw [hg, ← hfin]; simp [stepG.apply, hr1]
  have s5 : Go.step P (lone (b.atR ⟨putAt (putAt tmps o0.dst r) o1.dst v1, []⟩ [.inRegion #[o0, o1] [], .code rest]) ({ c0 with mode := u' } :: cs) w) = .next (lone (b.atR ⟨putAt (putAt tmps o0.dst r) o1.dst v1, []⟩ [.code rest]) ({ c0 with mode := u' } :: cs) w) := stepR_region_end
  obtain ⟨e, w', fr, hR, hc, hk⟩ := h b ({ c0 with mode := u' } :: cs) rfl rfl rfl
  exact ⟨e, u', w', fr, ⟨rfl, hR⟩, Comes.of_steps (.head s1 (.head s2 (.head s3 (.head s4 (.one s5))))) hc, hk⟩
theorem rec_panic {v : Value} {older : List PanicEntry} : ∀ (c : Frame) (cs : List Frame), c.mode = .panicking ({ v := v, recovered := false } :: older) → (recoverD (c :: cs) = some (v, { c with mode := .panicking ({ v := v, recovered := true } :: older) } :: cs) ∨ (recoverD (c :: cs) = none ∧ v = .nilIface ∧ (.panicking ({ v := v, recovered := true } :: older) : FrameMode) = .panicking ({ v := v, recovered := false } :: older))) := by
  intro c cs h
  left
  simp only [recoverD, h]
theorem rec_none : ∀ (c : Frame) (cs : List Frame), c.mode = .returning → (recoverD (c :: cs) = some (.nilIface, { c with mode := .returning } :: cs) ∨ (recoverD (c :: cs) = none ∧ (.nilIface : Value) = .nilIface ∧ (.returning : FrameMode) = .returning)) := by
  intro c cs h
  right
  exact ⟨by simp only [recoverD, h], rfl, rfl⟩
/-- A configuration's cells; as a value. -/
def cW (f : Nat → Int) : List Value := (List.range 31).map fun i => .int .i64 (f i)
def cV (f : Nat → Int) : Value := .agg (cW f).toArray
def zF : Nat → Int := fun _ => 0
/-- What is to come of a deferred function, from some place on. -/
theorem late_of_planX {P : Program} {f : FuncId} {B : Base} {es : Blks} {R : Ending → World → Prop} (o : OX) (hm : P.follows .mixedOrders = true) {k : List Item} {tmps : Array Value} {w : World} {bs : Blks} {gs : Bigs} {rs : Rws} {os : Lps} (h0 : Sx B w bs gs rs os) (hE : ExX B es)
    (h : runX P f (.late R) B es o [] ⟨k, tmps, bs, gs, rs, os, .ctl⟩) : AtG f none (FinD P R) k ⟨tmps, []⟩ w :=
  runX_sound hm hE o [] _ (fun _ hL => by cases hL) h w [] h0 ⟨List.nodup_nil, fun _ h => by cases h⟩
end Go.Proofs.YtnmacidlgadmgaaDoor
