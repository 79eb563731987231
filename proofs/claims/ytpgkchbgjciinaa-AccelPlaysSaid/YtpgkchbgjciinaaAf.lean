/- Walks of layer 15 (accel): the addition; the document's feed. -/
import Derived.Test.YtpgkchbgjciinaaAd
namespace Go.Proofs.Ytpgkchbgjciinaa
open Go.RowKit
set_option linter.unusedSimpArgs false
set_option linter.unusedVariables false
attribute [local go_sem] nlt2 nlt3 nlt4 nlt5 nlt6 nlt7 nlt8 nlt9 nlt10 nlt11 nlt12
section
variable {P : Program}
theorem setCells_St {w0 : World} {b : Nat} : ∀ (cs pre old : List Value) {W : World} {bs : Blks} (k : Nat), St w0 W bs [] → bs[k]? = some (b, pre ++ old) → old.length = cs.length →
    St w0 (W.setCells b pre.length cs) (bs.set k (b, pre ++ cs)) []
  | [], pre, old, W, bs, k, h, hk, hl => by
    obtain rfl : old = [] := List.eq_nil_of_length_eq_zero hl
    have e : bs.set k (b, pre ++ []) = bs := by
      obtain ⟨hkl, hv⟩ := List.getElem?_eq_some_iff.1 hk
      rw [← hv]; exact List.set_getElem_self hkl
    rw [e]; exact h
  | c :: cs, pre, [], W, bs, k, h, hk, hl => by cases hl
  | c :: cs, pre, o :: old, W, bs, k, h, hk, hl => by
    have hkl : k < bs.length := (List.getElem?_eq_some_iff.1 hk).1
    obtain ⟨v0, vs, e0⟩ : ∃ v0 vs, pre ++ o :: old = v0 :: vs := by cases pre with | nil => exact ⟨_, _, rfl⟩ | cons x r => exact ⟨_, _, rfl⟩
    have h1 := St.set h k pre.length (by rw [hk, e0]) (by rw [← e0]; simp) (Or.inl rfl) c
    rw [← e0, show (pre ++ o :: old).set pre.length c = (pre ++ [c]) ++ old from by simp] at h1
    have h2 := setCells_St cs (pre ++ [c]) old k h1 (by rw [List.getElem?_set, if_pos rfl, if_pos hkl]) (by simpa using hl)
    rw [List.set_set] at h2
    simp only [List.length_append, List.length_cons, List.length_nil, List.append_assoc, List.cons_append, List.nil_append] at h2
    exact h2
/-- The step: a whole struct or row goes into a block of the state; the world behind it is a letter. -/
theorem wpList_storeAll {ops : Array Oper} {rest : List Oper} {op : Oper} {a : Act} {w0 w : World} {Q : Exit → Act → World → Prop} (ty : TypeId) {x y : Operand} (ho : op.op = .store ty x y) (hgd : op.guard = none) (hdst : op.dst = none)
    (b : Nat) (hx : a.eval x = .pointer (some ⟨b, 0, none⟩)) (cells : Array Value) (hy : a.eval y = .agg cells) {bs : Blks} (S : St w0 w bs []) (k : Nat) {old : List Value} (hk : bs[k]? = some (b, old)) (hl : old.length = cells.size)
    (hi : (P.info? ty).map (·.size) = some cells.size) (h1 : cells.all (·.oneCell') = true)
    (h : ∀ w', St w0 w' (bs.set k (b, cells.toList)) [] → wpList P ops Q rest a w') : wpList P ops Q (op :: rest) a w := by
  obtain ⟨k1, k2, k3, k4⟩ := S.2.1 _ (List.mem_of_getElem? hk)
  have ht : w.there b 0 cells.size := fun j hj => by
    rw [Nat.zero_add]
    have hj' : j < old.length := by omega
    exact ⟨by rw [k4 j _ (List.getElem?_eq_getElem hj')]; rfl, k3 j⟩
  refine wpList_store_mid hgd ty x y ho b 0 cells hx hy ht hi h1 ?_
  rw [hdst]
  exact h _ (setCells_St cells.toList [] old k S hk (by simpa using hl))
/-- The whole variable, out of a range. -/
theorem run_loadVar_part {w : World} {b o : Nat} {ty : TypeId} {cs : List Value} (hc : w.rangeAt b o cs) (hd : (P.underlying ty).map descRow = some true) (hi : (P.info? ty).map (·.size) = some cs.length) :
    (loadVar ty ⟨b, o, none⟩).run P w = .ok (.agg cs.toArray) w := by
  cases hu : P.underlying ty with
  | none => rw [hu] at hd; cases hd
  | some d =>
    rw [hu] at hd
    have h1 : descRow d = true := Option.some.inj hd
    cases d with
    | struct f => exact run_loadVar_mid w b o ty cs _ hc hu rfl hi
    | array n e => exact run_loadVar_mid w b o ty cs _ hc hu rfl hi
    | _ => cases h1
/-- Two results, the first of which lies in a variable. -/
theorem results_row2 {fn : Func} {tmps : Array Value} {w : World} {a t b g : Nat} {v u : Value} (hres : fn.results = #[.cell a t, .tmp b])
    (htmp : tmps[a]? = some (.pointer (some ⟨g, 0, none⟩))) (hu : tmps[b]? = some u) (hload : (loadVar t ⟨g, 0, none⟩).run P w = .ok v w) : (results fn tmps).run P w = .ok (.tuple #[v, u]) w := by
  unfold results
  simp [hres, htmp, hu, hload, asAddr]
end
set_option maxRecDepth 100000 in
set_option maxHeartbeats 4000000 in
theorem feed_Add_true (c : Nat → Int) (l r : Int) (w0 w : World) (f : Nat) (bs : Blks) (S0 : Asd (St w0 w ((f, feedL l r c) :: bs) [])) :
    Calls Try.prog 22 #[.pointer (some ⟨f, 0, none⟩), .bool true] w fun e w' => e = .returned (.agg #[.int .i64 (c 3), .int .i64 (c 4), .int .i64 (c 5)]) ∧ Below w.heap.size w w' := by
  have L0 := S0.out.facts.1
  have e0 := St.cell S0.out 0 5 rfl rfl
  have e1 := St.cell S0.out 0 6 rfl rfl
  have e2 := St.cell S0.out 0 7 rfl rfl
  simp only at L0
  go_enter Try.func22, Try.ntmps22
  go_wp2
  refine bodyPost_ret (v := .agg #[.int .i64 (c 3), .int .i64 (c 4), .int .i64 (c 5)]) (by simp (maxDischargeDepth := 9) [results, Try.results22, go_sem, *]) rfl ⟨rfl, (by repeat (first | exact Below.refl _ _ | assumption | refine bl_alloc ?_ _ | refine bl_drewN ?_ _ | refine bl_drew ?_ | refine bl_set ?_ (by first | (simp; done) | (simp; omega) | (dsimp only; omega)) _ | refine bl_then ?_ (by assumption)))⟩
set_option maxRecDepth 100000 in
set_option maxHeartbeats 4000000 in
theorem feed_Add_false (c : Nat → Int) (l r : Int) (w0 w : World) (f : Nat) (bs : Blks) (S0 : Asd (St w0 w ((f, feedL l r c) :: bs) [])) :
    Calls Try.prog 22 #[.pointer (some ⟨f, 0, none⟩), .bool false] w fun e w' => e = .returned (.agg #[.int .i64 (c 0), .int .i64 (c 1), .int .i64 (c 2)]) ∧ Below w.heap.size w w' := by
  have L0 := S0.out.facts.1
  have e0 := St.cell S0.out 0 2 rfl rfl
  have e1 := St.cell S0.out 0 3 rfl rfl
  have e2 := St.cell S0.out 0 4 rfl rfl
  simp only at L0
  go_enter Try.func22, Try.ntmps22
  go_wp2
  refine bodyPost_ret (v := .agg #[.int .i64 (c 0), .int .i64 (c 1), .int .i64 (c 2)]) (by simp (maxDischargeDepth := 9) [results, Try.results22, go_sem, *]) rfl ⟨rfl, (by repeat (first | exact Below.refl _ _ | assumption | refine bl_alloc ?_ _ | refine bl_drewN ?_ _ | refine bl_drew ?_ | refine bl_set ?_ (by first | (simp; done) | (simp; omega) | (dsimp only; omega)) _ | refine bl_then ?_ (by assumption)))⟩
set_option maxRecDepth 100000 in
set_option maxHeartbeats 4000000 in
theorem ref15_Add_true (c : Nat → Int) (l r : Int) (w : World) :
    Calls Try.prog 23 #[.agg #[.int .i64 (c 0), .int .i64 (c 1), .int .i64 (c 2), .int .i64 (c 3), .int .i64 (c 4), .int .i64 (c 5), .int .i64 (c 6), .int .i64 (c 7), .int .i64 (c 8), .int .i64 (c 9), .int .i64 (c 10), .int .i64 (c 11), .int .i64 (c 12), .int .i64 (c 13), .int .i64 (c 14), .int .i64 (c 15), .int .i64 (c 16), .int .i64 (c 17), .int .i64 (c 18), .int .i64 (c 19), .int .i64 (c 20), .int .i64 (c 21), .int .i64 (c 22), .int .i64 (c 23), .int .i64 (c 24), .int .i64 (c 25), .int .i64 (c 26), .int .i64 (c 27), .int .i64 (c 28), .int .i64 (c 29), .int .i64 (c 30), .int .i64 l, .int .i64 r], .bool true] w fun e w' => e = .returned (.agg #[.int .i64 (c 3), .int .i64 (c 4), .int .i64 (c 5)]) ∧ Below w.heap.size w w' := by
  go_enter Try.func23, Try.ntmps23
  go_wp2
  refine bodyPost_ret (v := .agg #[.int .i64 (c 3), .int .i64 (c 4), .int .i64 (c 5)]) (by simp (maxDischargeDepth := 9) [results, Try.results23, go_sem, *]) rfl ⟨rfl, (by repeat (first | exact Below.refl _ _ | assumption | refine bl_alloc ?_ _ | refine bl_drewN ?_ _ | refine bl_drew ?_ | refine bl_set ?_ (by first | (simp; done) | (simp; omega) | (dsimp only; omega)) _ | refine bl_then ?_ (by assumption)))⟩
set_option maxRecDepth 100000 in
set_option maxHeartbeats 4000000 in
theorem ref15_Add_false (c : Nat → Int) (l r : Int) (w : World) :
    Calls Try.prog 23 #[.agg #[.int .i64 (c 0), .int .i64 (c 1), .int .i64 (c 2), .int .i64 (c 3), .int .i64 (c 4), .int .i64 (c 5), .int .i64 (c 6), .int .i64 (c 7), .int .i64 (c 8), .int .i64 (c 9), .int .i64 (c 10), .int .i64 (c 11), .int .i64 (c 12), .int .i64 (c 13), .int .i64 (c 14), .int .i64 (c 15), .int .i64 (c 16), .int .i64 (c 17), .int .i64 (c 18), .int .i64 (c 19), .int .i64 (c 20), .int .i64 (c 21), .int .i64 (c 22), .int .i64 (c 23), .int .i64 (c 24), .int .i64 (c 25), .int .i64 (c 26), .int .i64 (c 27), .int .i64 (c 28), .int .i64 (c 29), .int .i64 (c 30), .int .i64 l, .int .i64 r], .bool false] w fun e w' => e = .returned (.agg #[.int .i64 (c 0), .int .i64 (c 1), .int .i64 (c 2)]) ∧ Below w.heap.size w w' := by
  go_enter Try.func23, Try.ntmps23
  go_wp2
  refine bodyPost_ret (v := .agg #[.int .i64 (c 0), .int .i64 (c 1), .int .i64 (c 2)]) (by simp (maxDischargeDepth := 9) [results, Try.results23, go_sem, *]) rfl ⟨rfl, (by repeat (first | exact Below.refl _ _ | assumption | refine bl_alloc ?_ _ | refine bl_drewN ?_ _ | refine bl_drew ?_ | refine bl_set ?_ (by first | (simp; done) | (simp; omega) | (dsimp only; omega)) _ | refine bl_then ?_ (by assumption)))⟩
end Go.Proofs.Ytpgkchbgjciinaa
