/- The way from a walk's end to a law's row: the law returned true, and below the old heap nothing has turned. Opening of plain arguments. -/
/- Opening of plain arguments: arrays of numbers of 64 bits. -/
import Derived.WalkKit
import Derived.ProofKit
import Derived.OpenShut
import Derived.Below
import Derived.Carry
import Derived.ReadAgain
import Derived.Lib.SmallJoins
import Derived.Test.YtnmacidlgadmgaaDoorRows
import Derived.Test.YtnmacidlgadmgaaDoorWa
namespace Go.Proofs.YtnmacidlgadmgaaDoor
open Go.RowKit Go.WideShapes Go.ChangeShapes Go.WideElems
set_option maxRecDepth 100000

theorem law_laidOut : laidOutB Tryd.prog = true := by kernel_rfl
/-- Arguments read behind the call as they did, in whatever spare room. -/
theorem args_stay {H : Type} {enc : TypeId × Value → H} {P : Program} (hl : laidOutB P = true) {W W' : World} {sp : Nat → Bool} (hb : Below W.heap.size W W') :
    ∀ {ts : List TypeId} {vs : List Value} {ds : List (DataW H)} {ps : List MemPlace}, (∀ t ∈ ts, P.readableRec t = true ∧ t < P.types.size) →
      DataW.TrodAll enc P W 0 (fun _ => true) true ts vs ds ps → (∀ p ∈ ps, p.block < W.heap.size) → (∀ p ∈ ps, sp p.block = true) → DataW.TrodAll enc P W' 0 sp true ts vs ds ps
  | [], [], [], _, _, h, _, _ => h
  | [], [], _ :: _, _, _, h, _, _ => h.elim
  | [], _ :: _, _, _, _, h, _, _ => h.elim
  | _ :: _, [], _, _, _, h, _, _ => h.elim
  | _ :: _, _ :: _, [], _, _, h, _, _ => h.elim
  | t :: ts, v :: vs, d :: ds, ps, hr, h, hlt, hs => by
    obtain ⟨p, q, h1, h2, e⟩ := h
    have hp : ∀ x ∈ p, x ∈ ps := fun x hx => by rw [e]; simp [hx]
    have hq : ∀ x ∈ q, x ∈ ps := fun x hx => by rw [e]; simp [hx]
    exact ⟨p, q, Trod_stays hl (hr t (by simp)).1 (hr t (by simp)).2 h1 (fun x hx => hb.same (hlt x (hp x hx))) (fun x hx => hs x (hp x hx)),
      args_stay hl hb (fun t' ht' => hr t' (by simp [ht'])) h2 (fun x hx => hlt x (hq x hx)) (fun x hx => hs x (hq x hx)), e⟩

theorem law_post {H : Type} {enc : TypeId × Value → H} {P : Program} {f : Func} {s : ChangeSpec} {apart fresh handsOn again : Bool} {W W' : World} {args : Array Value} {t : TypeId} {ds gs : List (DataW H)} {before : List MemPlace}
    (hW : DataW.Whole enc P f.params.toList s.vars apart W args.toList ds gs before) (hv : s.vars = []) (hres : (s.fn H ds).results = [.lit (.bool true)]) (hargs : (s.fn H ds).args = ds) (hvs : (s.fn H ds).vars = [])
    (hrt : f.resultTypes = #[t]) (ht : P.underlying t = some .bool) (hl : laidOutB P = true) (hreadB : (f.params.toList.all fun t => P.readableRec t && decide (t < P.types.size)) = true) (hb : Below W.heap.size W W') :
    s.post enc P f apart fresh handsOn again W args (.bool true) W' := by
  have hread : ∀ t ∈ f.params.toList, P.readableRec t = true ∧ t < P.types.size := fun t ht => by simpa using List.all_eq_true.1 hreadB t ht
  have hlt : ∀ p ∈ before, p.block < W.heap.size := fun p hp => hW.lt p hp
  have hW0 := hW
  obtain ⟨p, q, hA, hV, e, hz, hn⟩ := hW
  rw [hv] at hV
  obtain ⟨rfl, rfl⟩ := trodVars_none hV
  rw [List.append_nil] at e
  subst e
  have hA' : ∀ sp : Nat → Bool, (∀ p ∈ before, sp p.block = true) → DataW.TrodAll enc P W' 0 sp true f.params.toList args.toList ds before := fun sp hs => args_stay hl hb hread hA hlt hs
  have hold : ∀ p ∈ before, (fun b => decide (b < W.heap.size)) p.block = true := fun p hp => by simpa using hlt p hp
  have hR : ∀ (b : Nat) (sp : Nat → Bool) (hd : Bool), DataW.TrodAll enc P W' b sp hd f.resultTypes.toList ((Value.bool true).resultList f.resultTypes.size) (s.fn H ds).results [] := by
    intro b sp hd
    rw [hrt, hres]
    exact trodAll_cons_mk (shut_bool ht true) trodAll_mk0
  have hV' : ∀ sp : Nat → Bool, DataW.TrodVars enc P W' sp s.vars (s.fn H ds).vars [] := fun sp => by rw [hv, hvs]; exact rfl
  have hds : ds ++ ([] : List (DataW H)) = ds := List.append_nil ds
  refine ⟨ds, [], before, [], before, [], hW0, ?_, ?_, ?_, World.keptBut_mono (fun p hp => ⟨hp, Or.inr (Or.inl hp)⟩) (hb.frame (· ∈ before)), fun _ => ?_⟩
  · rw [hds]; exact hR _ _ _
  · rw [hds, hargs]; exact hA' _ hold
  · rw [hds]; exact hV' _
  · refine ⟨ok_one hrt rfl (okWide_bool_mk ht _), (.lit (.bool true)) :: ds, [], before, ⟨before, [], ?_, ?_, (List.append_nil _).symm, ?_, hn⟩, fun p hp _ => hp⟩
    · have := trodAll_append (hA' (fun _ => true) (fun _ _ => rfl)) (hR 0 (fun _ => true) true)
      rw [hres] at this
      simpa using this
    · rw [hv]; exact rfl
    · intro b off hp
      rw [hb.frozen (hlt _ hp)]
      exact hz b off hp

theorem wf_i64 {n : Int} (h : (Lit.int .i64 n).wf = true) : I64 n := by have := bounds_i64 h; unfold I64; omega
theorem wf_u64 {n : Int} (h : (Lit.int .u64 n).wf = true) : U64 n := by have := bounds_u64 h; unfold U64; omega
section
variable {H : Type} {enc : TypeId × Value → H} {w : World} {base : Nat} {spare : Nat → Bool} {held : Bool} {r : Reach} {b0 : Nat} {v : Value} {d : DataW H} {p : List MemPlace}
theorem open_i64 (hv : Value.okWide Tryd.prog w r b0 2 v) (h : DataW.Trod enc Tryd.prog w base spare held 2 v d p) : ∃ x : Int, I64 x ∧ v = .int .i64 x := by
  obtain ⟨x, rfl, _, _, wf⟩ := open_int Tryd.underlying2 hv h
  exact ⟨x, wf_i64 wf, rfl⟩
theorem open_int' (hv : Value.okWide Tryd.prog w r b0 3 v) (h : DataW.Trod enc Tryd.prog w base spare held 3 v d p) : ∃ x : Int, I64 x ∧ v = .int .i64 x := by
  obtain ⟨x, rfl, _, _, wf⟩ := open_int Tryd.underlying3 hv h
  exact ⟨x, wf_i64 wf, rfl⟩
end
end Go.Proofs.YtnmacidlgadmgaaDoor

namespace Go.Proofs.YtnmacidlgadmgaaDoor
open Go.RowKit Go.WideShapes Go.ChangeShapes Go.WideElems
set_option maxRecDepth 100000

theorem ints_of {l : List Value} : (∀ v ∈ l, ∃ x : Int, I64 x ∧ v = .int .i64 x) → ∃ xs : List Int, (∀ x ∈ xs, I64 x) ∧ l = xs.map (Value.int .i64) := by
  intro h
  induction l with
  | nil => exact ⟨[], by simp, rfl⟩
  | cons v r ih =>
    obtain ⟨x, hx, rfl⟩ := h v (by simp)
    obtain ⟨xs, h1, rfl⟩ := ih fun u hu => h u (by simp [hu])
    exact ⟨x :: xs, fun y hy => by rcases List.mem_cons.1 hy with rfl | hy; exact hx; exact h1 y hy, rfl⟩
section
variable {H : Type} {enc : TypeId × Value → H} {P : Program} {w : World} {base : Nat} {spare : Nat → Bool} {held : Bool} {r : Reach} {b0 : Nat} {v : Value} {d : DataW H} {p : List MemPlace}
theorem open_ints_arr {n : Nat} {t e : TypeId} (ht : P.underlying t = some (.array n e)) (he : P.underlying e = some (.int .i64)) (hc : P.cellsOf e = 1) (hct : P.cellsOf t = n)
    (hv : Value.okWide P w r b0 t v) (h : DataW.Trod enc P w base spare held t v d p) : ∃ xs : List Int, xs.length = n ∧ (∀ x ∈ xs, I64 x) ∧ v = .agg (xs.map (Value.int .i64)).toArray := by
  simp only [Value.okWide, ht] at hv
  obtain ⟨cs, rfl, hsz, _⟩ := hv
  obtain ⟨fuel, hf⟩ := h
  obtain ⟨ys, m, _, _, hl, hyl, hel⟩ := DataW.trod_array ht hf
  obtain ⟨l⟩ := cs
  simp only [Value.cells] at hf hl hel
  have hln : l.length = n := by rw [← hct]; simpa using hl
  have key : ∀ v ∈ l, ∃ x : Int, I64 x ∧ v = .int .i64 x := by
    intro v hv
    obtain ⟨i, hi, rfl⟩ := List.mem_iff_getElem.1 hv
    have k := hel i (by omega)
    rw [hc, Nat.mul_one] at k
    have e1 : (l.drop i).take 1 = [l[i]] := by rw [List.drop_eq_getElem_cons hi]; rfl
    rw [show (({ toList := l } : Array Value).toList.drop i).take 1 = [l[i]] from e1] at k
    have hy : ys[i]? = some (ys[i]'(by omega)) := List.getElem?_eq_getElem (by omega)
    rw [hy] at k
    obtain ⟨x, ex, _, wx⟩ := DataW.trod_int he k
    exact ⟨x, wf_i64 wx, by simpa using ex⟩
  obtain ⟨xs, h1, rfl⟩ := ints_of key
  exact ⟨xs, by simpa using hln, h1, rfl⟩
end
section
variable {H : Type} {enc : TypeId × Value → H} {w : World} {base : Nat} {spare : Nat → Bool} {held : Bool} {r : Reach} {b0 : Nat} {v : Value} {d : DataW H} {p : List MemPlace}
theorem open_vec (hv : Value.okWide Tryd.prog w r b0 23 v) (h : DataW.Trod enc Tryd.prog w base spare held 23 v d p) : ∃ x y z : Int, I64 x ∧ I64 y ∧ I64 z ∧ v = .agg #[.int .i64 x, .int .i64 y, .int .i64 z] := by
  obtain ⟨xs, hl, hx, rfl⟩ := open_ints_arr Tryd.underlying23 Tryd.underlying2 (by kernel_rfl) (by kernel_rfl) hv h
  match xs, hl, hx with
  | [x, y, z], _, hx => exact ⟨x, y, z, hx x (by simp), hx y (by simp), hx z (by simp), rfl⟩
end
end Go.Proofs.YtnmacidlgadmgaaDoor
