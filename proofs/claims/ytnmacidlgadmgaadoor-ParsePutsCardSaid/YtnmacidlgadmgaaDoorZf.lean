/- The second engine, sixth part: plans as wholes; contracts of functions and rounds out of them. -/
import Derived.Test.YtnmacidlgadmgaaDoorZe
namespace Go.Proofs.YtnmacidlgadmgaaDoor
open Go.RowKit
section
variable {P : Program} {f : FuncId} {m : Aim} {B : Base} {es : Blks}
theorem insX_todo (i : IX) (hi : i.inReg = true) (s : KX) {K : KX → Prop} (h : insX P m B es i s K) : insX P m B es i s (fun s' => s'.todo = s.todo ∧ K s') := by
  cases i with
  | c => cases hi
  | d X => cases hi
  | br j => cases hi
  | fg l => exact ⟨rfl, h⟩
  | sel l => cases hi
  | nrm t => exact ⟨h.1, rfl, h.2⟩
  | am i sole m' =>
    simp only [insX] at h ⊢
    split at h
    · split at h
      · exact ⟨h.1, by first | rfl | trivial, h.2⟩
      · exact h.elim
    · exact h.elim
  | lst m' =>
    simp only [insX] at h ⊢
    split at h
    · exact ⟨h.1, by first | rfl | trivial, h.2⟩
    · exact h.elim
  | «at» i sole =>
    simp only [insX] at h ⊢
    split at h
    · split at h
      · exact ⟨by first | rfl | trivial, h⟩
      · exact h.elim
    · exact h.elim
  | setv sl v =>
    simp only [insX] at h ⊢
    split at h
    · exact ⟨h.1, by first | rfl | trivial, h.2⟩
    · exact h.elim
  | setc k i v =>
    simp only [insX] at h ⊢
    split at h
    · split at h
      · exact ⟨h.1, by first | rfl | trivial, h.2⟩
      · exact h.elim
    · exact h.elim
  | setb k cs =>
    simp only [insX] at h ⊢
    split at h
    · exact ⟨h.1, by first | rfl | trivial, h.2⟩
    · exact h.elim
  | v =>
    simp only [insX] at h ⊢
    split at h
    · split at h
      · exact ⟨by first | rfl | trivial, h⟩
      · exact h.elim
    · exact h.elim
  | u =>
    simp only [insX] at h ⊢
    split at h
    · split at h
      · exact ⟨by first | rfl | trivial, h⟩
      · exact h.elim
    · exact h.elim
  | own k =>
    simp only [insX] at h ⊢
    split at h
    · split at h
      · split at h
        · exact ⟨h.1, by first | rfl | trivial, h.2⟩
        · exact h.elim
      · exact h.elim
    · exact h.elim
  | ext k =>
    simp only [insX] at h ⊢
    split at h
    · split at h
      · split at h
        · exact ⟨h.1, by first | rfl | trivial, h.2⟩
        · exact h.elim
      · exact h.elim
    · exact h.elim
  | ld v =>
    simp only [insX] at h ⊢
    split at h
    · split at h
      · exact ⟨h.1, by first | rfl | trivial, h.2⟩
      · exact h.elim
    · exact h.elim
  | put k =>
    simp only [insX] at h ⊢
    split at h
    · split at h
      · split at h
        · exact ⟨h.1, h.2.1, by first | rfl | trivial, h.2.2⟩
        · exact h.elim
      · exact h.elim
    · exact h.elim
  | putp k cs =>
    simp only [insX] at h ⊢
    split at h
    · split at h
      · exact ⟨h.1, h.2.1, by first | rfl | trivial, h.2.2⟩
      · exact h.elim
    · exact h.elim
  | call v =>
    simp only [insX] at h ⊢
    split at h
    · split at h
      · exact ⟨h.1, by first | rfl | trivial, h.2⟩
      · exact h.elim
    · exact h.elim
  | eq b =>
    simp only [insX] at h ⊢
    split at h
    · split at h
      · split at h
        · exact ⟨h.1, by first | rfl | trivial, h.2⟩
        · exact h.elim
      · split at h
        · exact ⟨h.1, by first | rfl | trivial, h.2⟩
        · exact h.elim
      · exact h.elim
    · exact h.elim
  | fact v =>
    simp only [insX] at h ⊢
    split at h
    · split at h
      · exact ⟨h.1, by first | rfl | trivial, h.2⟩
      · exact h.elim
    · exact h.elim
theorem insXL_todo (hm : P.follows .mixedOrders = true) (hE : ExX B es) : ∀ (l : List IX) (s : KX) {K : KX → Prop}, l.all IX.inReg = true → insXL P m B es l s K → (∀ s', s'.todo = s.todo → K s' → AtX P f m B es s') → AtX P f m B es s
  | [], s, _, _, h, hK => hK s rfl h
  | i :: l, s, _, ha, h, hK => by
    simp only [List.all_cons, Bool.and_eq_true] at ha
    refine insX_sound hm hE i s (insX_todo i ha.1 s h) fun s' h' => ?_
    exact insXL_todo hm hE l s' ha.2 h'.2 fun s'' e k => hK s'' (e.trans h'.1) k
theorem newX (hE : ExX B es) {s : KX} {op : Oper} {ops : Array Oper} {cs : List Value} {t : TypeId} {kk : Nat → Option Next} (hn : s.now = some (op, ops)) (hl : s.loud = true) (hw : Region.wanted op (yielded ops s.tmps) = true)
    (hx : nrun P (execOp s.ev op) = some (cs, t, kk)) (hd : isDefer op = false)
    (h : ∀ r, ∃ v, kk r = some (.value v) ∧ AtX P f m B es ⟨s.todo, putAt s.tmps op.dst v, s.bs ++ [(r, cs)], s.gs, s.rs ++ [(s.bs.length, t, cs.length)], s.os, s.next⟩) : AtX P f m B es s := by
  refine AtX.loud hE hn hl fun W ds hS hM hK i hi K hKK _ => ?_
  obtain ⟨v, hv, hA⟩ := h W.heap.size
  refine opG_of hi hw hd ?_
  rw [run_evalX]
  show upG P op K _ ((execOp s.ev op).run P W)
  rw [nrun_sound _ hx hv]
  show K ((Act.mk s.tmps (mk m ds)).put op.dst v) _
  rw [putX_at]
  exact hKK _ _ _ _ _ _ hA (hS.lay cs t) (hM.call ((Below.refl _ _).alloc (Nat.le_refl _) _)) (preX_more hK)
theorem bigX (hE : ExX B es) {s : KX} {op : Oper} {ops : Array Oper} {g : FuncId} {args : Array Value} {z : Int} (hn : s.now = some (op, ops)) (hl : s.loud = true) (hw : Region.wanted op (yielded ops s.tmps) = true)
    (hx : prun P (execOp s.ev op) = some (.enter g args)) (hd : isDefer op = false) (hc : CallBX P B s.bs s.gs s.rs s.os g args z)
    (h : ∀ A c, AtX P f m B es ⟨s.todo, putAt s.tmps op.dst (.agg #[.bool (sg z), .slice A (nd z) c]), s.bs, s.gs ++ [(A, c, z)], s.rs, s.os, s.next⟩) : AtX P f m B es s := by
  refine AtX.loud hE hn hl fun W ds hS hM hK i hi K hKK _ => ?_
  refine opG_of hi hw hd ?_
  rw [run_evalX]
  show upG P op K _ ((execOp s.ev op).run P W)
  rw [prun_sound (W := W) _ hx]
  refine Calls.mono (hc W hS) ?_
  rintro e w' ⟨A, c, rfl, hr, hb⟩
  refine ⟨_, rfl, ?_⟩
  rw [putX_at]
  exact hKK _ _ _ _ _ _ (h A c) ((hS.call hb).big hr) (hM.call hb) hK
theorem mutX (hE : ExX B es) {s : KX} {op : Oper} {ops : Array Oper} {g : FuncId} {args : Array Value} {S : (Nat → Nat) → Value × Blks × Rws} (hn : s.now = some (op, ops)) (hl : s.loud = true) (hw : Region.wanted op (yielded ops s.tmps) = true)
    (hx : prun P (execOp s.ev op) = some (.enter g args)) (hd : isDefer op = false) (hc : CallMX P B s.bs s.gs s.rs s.os g args S)
    (h : ∀ ρ, s.may (S ρ).2.1 ∧ AtX P f m B es (s.wr op (S ρ).1 (S ρ).2.1 (S ρ).2.2)) : AtX P f m B es s := by
  refine AtX.loud hE hn hl fun W ds hS hM _ i hi K _ hPP => ?_
  refine opG_of hi hw hd ?_
  rw [run_evalX]
  show upG P op K _ ((execOp s.ev op).run P W)
  rw [prun_sound (W := W) _ hx]
  refine Calls.mono (hc W hS) ?_
  rintro e w' ⟨ρ, rfl, hY, hS'⟩
  refine ⟨_, rfl, ?_⟩
  rw [putX_at]
  exact hPP _ _ _ _ _ _ (h ρ).1 (h ρ).2 hS' (hY _ hM)
theorem runR'_sound (hm : P.follows .mixedOrders = true) (hE : ExX B es) : ∀ (o : RX) (s : KX) {K : KX → Prop}, runR' P m B es o s K →
    (∀ s', s'.todo = s.todo → (∃ n ops listed sb, s'.md = .drw n ops listed none sb ∧ Region.ready .any ops listed = []) → K s' → AtX P f m B es s') → AtX P f m B es s := by
  intro o
  induction o with
  | done =>
    rintro ⟨todo, tmps, bs, gs, rs, os, md⟩ K h hK
    simp only [runR'] at h
    split at h
    · split at h
      · rename_i hr
        exact hK _ rfl ⟨_, _, _, _, rfl, hr⟩ h
      · exact h.elim
    · exact h.elim
  | s l o ih =>
    intro s K h hK
    simp only [runR'] at h
    split at h
    · rename_i ha
      exact insXL_todo hm hE l s ha h fun s' e h' => ih s' h' fun s'' e' hd k => hK s'' (e'.trans e) hd k
    · exact h.elim
  | split sl t e iht ihe =>
    rintro ⟨todo, tmps, bs, gs, rs, os, md⟩ K h hK
    simp only [runR'] at h
    split at h
    · rename_i b hb
      have key : ∀ u, tmps[sl]? = some u → tmps.setIfInBounds sl u = tmps := fun u hu => set_same hu
      cases b with
      | true => have := iht _ (h.1 rfl) (fun s' e => hK s' e); rwa [key _ hb] at this
      | false => have := ihe _ (h.2 rfl) (fun s' e => hK s' e); rwa [key _ hb] at this
    · exact h.elim
  | new k ih =>
    intro s K h hK
    simp only [runR'] at h
    split at h
    · rename_i op ops hn hl
      split at h
      · rename_i cs t kk hw hx hd
        refine newX hE hn hl hw hx hd fun r => ?_
        have h1 := h r
        split at h1
        · rename_i v hv
          exact ⟨v, hv, ih _ _ h1 fun s' e hd k => hK s' e hd k⟩
        · exact h1.elim
      · exact h.elim
    · exact h.elim
  | big z k ih =>
    intro s K h hK
    simp only [runR'] at h
    split at h
    · rename_i op ops hn hl
      split at h
      · rename_i g args hw hx hd
        exact bigX hE hn hl hw hx hd h.1 fun A c => ih A c _ (h.2 A c) fun s' e hd k => hK s' e hd k
      · exact h.elim
    · exact h.elim
  | fork i j a b iha ihb =>
    rintro ⟨todo, tmps, bs, gs, rs, os, md⟩ K h hK
    simp only [runR'] at h
    split at h
    · split at h
      · rename_i n ops listed sb hc
        simp only [decide_eq_true_eq] at hc
        intro _ hsel hD hp W ds hS hM
        refine ⟨fun h0 => (by rw [hc] at h0; cases h0), fun x hx => ?_⟩
        rw [hc] at hx
        rcases List.mem_cons.1 hx with rfl | hx
        · exact iha _ h.1 (fun s' e hd k => hK s' e hd k) (by simp [chk, hc]) hsel hD hp W ds hS hM _ rfl
        · rw [List.mem_singleton] at hx
          subst hx
          exact ihb _ h.2 (fun s' e hd k => hK s' e hd k) (by simp [chk, hc]) hsel hD hp W ds hS hM _ rfl
      · exact h.elim
    · exact h.elim
  | «mut» S k ih =>
    intro s K h hK
    simp only [runR'] at h
    split at h
    · rename_i op ops hn hl
      split at h
      · rename_i g args hw hx hd
        exact mutX hE hn hl hw hx hd h.1 fun ρ => ⟨(h.2 ρ).1, ih ρ _ (h.2 ρ).2 fun s' e hd k => hK s' e hd k⟩
      · exact h.elim
    · exact h.elim
theorem liteX_AtX {x : SD} {s : KX} (hmd : s.md = .ctl) (hl : liteX x s) (h : AtX P f m B es (x.at s.todo)) : AtX P f m B es s := by
  obtain ⟨todo, tmps, bs, gs, rs, os, md⟩ := s
  dsimp only at hmd
  subst hmd
  obtain ⟨h1, ⟨t, h2⟩, h3, h4, h5, h6⟩ := hl
  dsimp only at h1 h2 h3 h4 h6
  subst h1 h2 h6
  intro W ds hS hM
  refine h W ds (hS.less h3 (fun r hr => ⟨h4 r hr, ?_⟩) (List.Sublist.refl _)) hM
  have := List.all_eq_true.1 h5 r hr
  simpa using this
theorem appOf_spec {op : Oper} {x y : Operand} {t : TypeId} (h : appOf op = some (x, y, t)) : op.op = .call { callee := .builtin .append, args := #[x, y], argTypes := #[t, t] } ∧ isDefer op = false := by
  unfold appOf at h
  split at h
  · rename_i args tys ho
    split at h
    · rename_i a b t1 t2 ha ht
      split at h
      · rename_i e
        obtain ⟨rfl, rfl, rfl⟩ := by simpa using h
        subst e
        refine ⟨?_, by unfold isDefer; rw [ho]⟩
        rw [ho]
        congr 1
        congr 1
        · exact Array.toList_inj.1 (by rw [ha])
        · exact Array.toList_inj.1 (by rw [ht])
      · cases h
    · cases h
  · cases h
theorem run_appOf {op : Oper} {x y : Operand} {t : TypeId} (h : appOf op = some (x, y, t)) (ev : Operand → Value) {W W' : World} {v : Value} (hr : (Builtin.append_ #[t, t] op.type #[ev x, ev y]).run P W = .ok v W') : (execOp ev op).run P W = .ok (.value v) W' := by
  unfold execOp
  simp only [(appOf_spec h).1, resolve, invoke, builtin, Sem.run_bind, Sem.run_pure, Result.andThen_ok, List.map_toArray, List.map_cons, List.map_nil, hr]
theorem addr_add (b o j : Nat) : (⟨b, o, none⟩ : Addr).add j = ⟨b, o + j, none⟩ := Addr.add_lit ..
theorem cells_from {cs : List Value} {o n j : Nat} {u : Value} (h : (cellsFrom cs o n)[j]? = some u) : cs[o + j]? = some u := by
  unfold cellsFrom at h
  rw [List.getElem?_take] at h
  split at h
  · rwa [List.getElem?_drop] at h
  · cases h
theorem src_cell (hE : ExX B es) {s : KX} {own : Bool} {k b o n : Nat} {cs : List Value} (hk : srcOf es s own k = some (b, cs)) {W : World} (hS : Sx B W s.bs s.gs s.rs s.os) {j : Nat} {u : Value} (hu : (cellsFrom cs o n)[j]? = some u) : W.cell? ((⟨b, o, none⟩ : Addr).add j) = some u := by
  rw [addr_add]
  unfold srcOf at hk
  cases own with
  | true => exact holds_of_Sx hS _ (List.mem_of_getElem? hk) _ _ (cells_from hu)
  | false => exact holds_of_ExX hE hS _ (List.mem_of_getElem? hk) _ _ (cells_from hu)
theorem appG_spec {gs : Bigs} {cap : Nat} {xs : List Value} (h : appG gs cap xs) : gs = [] ∨ cap = 0 ∨ ∃ v0, xs[0]? = some v0 ∧ digitless v0 = true := by
  unfold appG at h
  split at h
  · exact Or.inl rfl
  · split at h
    · exact Or.inr (Or.inr ⟨_, rfl, h⟩)
    · exact Or.inr (Or.inl h)
theorem yldX (hE : ExX B es) {s : KX} {op : Oper} {ops : Array Oper} {S : (Nat → Nat) → Value × Blks × Rws} (hn : s.now = some (op, ops)) (hl : s.loud = true) (hw : Region.wanted op (yielded ops s.tmps) = true)
    (hd : isDefer op = false) (hc : CallYX P B s.bs s.gs s.rs s.os (execOp s.ev op) S)
    (h : ∀ ρ, s.may (S ρ).2.1 ∧ AtX P f m B es (s.wr op (S ρ).1 (S ρ).2.1 (S ρ).2.2)) : AtX P f m B es s := by
  refine AtX.loud hE hn hl fun W ds hS hM _ i hi K _ hPP => ?_
  obtain ⟨l, g, tmps, assign, body, hr, hR⟩ := hc W hS
  refine opG_of hi hw hd ?_
  rw [run_evalX]
  show upG P op K _ ((execOp s.ev op).run P W)
  rw [hr]
  refine Rounds.mono hR ?_
  rintro v w' ⟨ρ, rfl, hY, hS'⟩
  rw [putX_at]
  exact hPP _ _ _ _ _ _ (h ρ).1 (h ρ).2 hS' (hM.mem hS hY)
theorem semX (hE : ExX B es) {s : KX} {op : Oper} {ops : Array Oper} {S : (Nat → Nat) → Value × Blks × Rws} (hn : s.now = some (op, ops)) (hl : s.loud = true) (hw : Region.wanted op (yielded ops s.tmps) = true)
    (hd : isDefer op = false) (hc : SemX P B s.bs s.gs s.rs s.os (execOp s.ev op) S)
    (h : ∀ ρ, s.may (S ρ).2.1 ∧ AtX P f m B es (s.wr op (S ρ).1 (S ρ).2.1 (S ρ).2.2)) : AtX P f m B es s := by
  refine AtX.loud hE hn hl fun W ds hS hM _ i hi K _ hPP => ?_
  obtain ⟨ρ, W', hr, hY, hS'⟩ := hc W hS
  refine opG_of hi hw hd ?_
  rw [run_evalX]
  show upG P op K _ ((execOp s.ev op).run P W)
  rw [hr]
  show K ((Act.mk s.tmps (mk m ds)).put op.dst _) W'
  rw [putX_at]
  exact hPP _ _ _ _ _ _ (h ρ).1 (h ρ).2 hS' (hY _ hM)
theorem Sx.addLoop {W W1 : World} {bs : Blks} {gs : Bigs} {rs : Rws} {os : Lps} (h : Sx B W bs gs rs os) (hb : Below W.heap.size W W1) {l : Nat} {r : Loop} (hl : W.heap.size ≤ l) (hr : W1.heap[l]? = some (.loop r)) : Sx B W1 bs gs rs (os ++ [(l, r)]) := by
  have k := h.call hb
  refine ⟨k.bx, k.blk, k.nd, k.bg, k.rw, fun y hy => ?_, ?_⟩
  · rcases List.mem_append.1 hy with hy | hy
    · exact k.ob y hy
    · rw [List.mem_singleton.1 hy]; exact ⟨Or.inl (Nat.le_trans h.bx.size hl), hr⟩
  · rw [List.map_append, List.map_cons, List.map_nil]
    refine (List.perm_append_singleton _ _).nodup_iff.2 (List.nodup_cons.2 ⟨fun hm => ?_, k.on⟩)
    obtain ⟨y, hy, e⟩ := List.mem_map.1 hm
    have := (Array.getElem?_eq_some_iff.1 (h.ob y hy).2).1
    dsimp only at e
    omega
theorem Sx.dropLoop {W : World} {bs : Blks} {gs : Bigs} {rs : Rws} {os : Lps} {y : Nat × Loop} (h : Sx B W bs gs rs (os ++ [y])) : Sx B W bs gs rs os :=
  ⟨h.bx, h.blk, h.nd, h.bg, h.rw, fun z hz => h.ob z (List.mem_append_left _ hz), by have := h.on; rw [List.map_append] at this; exact (List.nodup_append.1 this).1⟩
/-- A range over a function. -/
theorem rangeX {g : Operand} {ps : Array Tmp} {assign body : Code} {kk : List Item} {tmps : Array Value} {bs : Blks} {gs : Bigs} {rs : Rws} {os : Lps} {S : (Nat → Nat) → Value × Blks × Rws} (hro : m.ro = none) (hdl : m.dl = [])
    (hc : ∀ l D, match prun P (resolve (Act.eval ⟨tmps, []⟩) (rangeCall g l) 0) with
      | some d => match prun P (invoke d.target d.args) with
        | some (.enter gf args) => CallMX P B bs gs rs (os ++ [(l, { state := .ready, pending := none, fn := f, tmps := tmps, params := ps, assign := assign, body := body, defers := D })]) gf args S
        | _ => False
      | none => False)
    (h : ∀ ρ, AtX P f m B es ⟨kk, tmps, (S ρ).2.1, gs, (S ρ).2.2, os, .ctl⟩) : AtX P f m B es ⟨.code (.rangeFunc g ps assign body) :: kk, tmps, bs, gs, rs, os, .ctl⟩ := by
  intro W ds hS hM
  have hB : Back P (m.fin P f) := Aim.back
  intro b cs h1 h3
  have hc' := hc (W.heap.size + 1) W.heap.size
  split at hc'
  · rename_i d hd
    split at hc'
    · rename_i gf args hi
      obtain ⟨rec, hrec⟩ : ∃ rec : Loop, rec = { state := .ready, pending := none, fn := f, tmps := tmps, params := ps, assign := assign, body := body, defers := W.heap.size } := ⟨_, rfl⟩
      rw [← hrec] at hc'
      obtain ⟨W1, hW1⟩ : ∃ W1, (W.alloc (.deferred (some []))).alloc (.loop rec) = W1 := ⟨_, rfl⟩
      have he : (Instr.enterLoop b.fn tmps ps assign body b.roundOf).run P W = .ok (W.heap.size + 1, [{ target := .collected W.heap.size, args := #[] }]) W1 := by
        rw [h3, hro, h1, run_enterLoop_outer, ← hrec, hW1]
      have hb1 : Below W.heap.size W W1 := by
        rw [← hW1]; exact ((Below.refl _ _).alloc (Nat.le_refl _) _).alloc (by simp) _
      have hL1 : W1.heap[W.heap.size + 1]? = some (.loop rec) := by
        rw [← hW1]; have := World.alloc_heap_new (W.alloc (.deferred (some []))) (.loop rec); rwa [World.size_alloc] at this
      have hD1 : W1.heap[W.heap.size]? = some (.deferred (some [])) := by
        rw [← hW1]; exact (Below.heap_alloc _ _ _ (by simp)).trans (World.alloc_heap_new W _)
      have hS1 : Sx B W1 bs gs rs (os ++ [(W.heap.size + 1, rec)]) := hS.addLoop hb1 (Nat.le_succ _) hL1
      have hM1 : Mk B W1 (W.heap.size :: ds) := by
        refine ⟨List.nodup_cons.2 ⟨fun hm => ?_, hM.1⟩, fun D hD => ?_⟩
        · have := (Array.getElem?_eq_some_iff.1 (hM.2 _ hm).2).1; omega
        · rcases List.mem_cons.1 hD with rfl | hD
          · exact ⟨hS.bx.size, hD1⟩
          · exact (hM.call hb1).2 D hD
      have hres : (resolve (Act.eval ⟨tmps, mk m ds⟩) (rangeCall g (W.heap.size + 1)) 0).run P W1 = .ok d W1 := by rw [evalX]; exact prun_sound _ hd
      have hinv : (invoke d.target d.args).run P W1 = .ok (.enter gf args) W1 := prun_sound _ hi
      have henter := stepR_rangeFunc (P := P) (b := b) (a := ⟨tmps, mk m ds⟩) (k := kk) (cs := cs) (w := W) (g := g) (ps := ps) (assign := assign) (body := body) he hres hinv
      obtain ⟨e, w3, fr, ⟨ρ, rfl, hY, hS3⟩, hsteps, _, hleave⟩ := hc' W1 hS1 (b.atR { tmps := tmps, defers := [{ target := .collected W.heap.size, args := #[] }] ++ mk m ds } (.inRangeFunc (W.heap.size + 1) :: kk) :: cs)
      have hM3 := hY _ hM1
      have hj : (os ++ [(W.heap.size + 1, rec)])[os.length]? = some (W.heap.size + 1, rec) := getElem?_end _ _
      have hq3 := (hS3.ob _ (List.mem_of_getElem? hj)).2
      have hend := run_endLoop (P := P) hq3 (by rw [hrec]; simp)
      have hpend : rec.pending = none := by rw [hrec]
      have hend := hend.trans (congrArg (fun p => Result.ok p (w3.putObj (W.heap.size + 1) (.loop { rec with state := .exhausted }))) hpend)
      have hback := step_leave_returned (c := b.atR { tmps := tmps, defers := [{ target := .collected W.heap.size, args := #[] }] ++ mk m ds } (.inRangeFunc (W.heap.size + 1) :: kk)) (cs := cs) hleave
      rw [finish_atR_inRangeFunc] at hback
      have hlast := stepR_endRangeFunc (P := P) (b := b) (a := { tmps := tmps, defers := [{ target := .collected W.heap.size, args := #[] }] ++ mk m ds }) (k := kk) (cs := cs) hend
      refine hB _ _ _ _ (.head henter (Steps.trans hsteps (.head hback (.one hlast)))) ?_
      have hS4 := hS3.loop hj { rec with state := .exhausted }
      have hM4 := hM3.loop hS3 hj (.loop { rec with state := .exhausted })
      have hset : (os ++ [(W.heap.size + 1, rec)]).set os.length (W.heap.size + 1, { rec with state := .exhausted }) = os ++ [(W.heap.size + 1, { rec with state := .exhausted })] := by
        rw [List.set_append, if_neg (Nat.lt_irrefl _), Nat.sub_self]; rfl
      rw [hset] at hS4
      have hk := h ρ _ (W.heap.size :: ds) hS4.dropLoop hM4 b cs h1 h3
      have hmk : mk m (W.heap.size :: ds) = [{ target := .collected W.heap.size, args := #[] }] ++ mk m ds := by unfold mk; rw [hdl]; rfl
      dsimp only at hk
      rw [hmk] at hk
      exact hk
    · exact hc'.elim
  · exact hc'.elim
theorem runX_sound (hm : P.follows .mixedOrders = true) (hE : ExX B es) : ∀ (o : OX) (Ls : List (KX → Prop)) (s : KX), (∀ L ∈ Ls, ∀ s, L s → AtX P f m B es s) → runX P f m B es o Ls s → AtX P f m B es s := by
  have hB : Back P (m.fin P f) := Aim.back
  intro o
  induction o with
  | fin => intro Ls s hL h; exact h.elim
  | s l o ih => intro Ls s hL h; exact insXL_sound hm hE l s h fun s' h' => ih Ls s' hL h'
  | split sl t e iht ihe =>
    rintro Ls ⟨todo, tmps, bs, gs, rs, os, md⟩ hL h
    simp only [runX] at h
    split at h
    · rename_i b hb
      have key : ∀ u, tmps[sl]? = some u → tmps.setIfInBounds sl u = tmps := fun u hu => set_same hu
      cases b with
      | true => have := iht Ls _ hL (h.1 rfl); rwa [key _ hb] at this
      | false => have := ihe Ls _ hL (h.2 rfl); rwa [key _ hb] at this
    · exact h.elim
  | gen sl k ih =>
    rintro Ls ⟨todo, tmps, bs, gs, rs, os, md⟩ hL h
    simp only [runX] at h
    split at h
    · rename_i κ n hu
      have key : tmps.setIfInBounds sl (.int κ n) = tmps := set_same hu
      have := ih n Ls _ hL (h n rfl)
      rwa [key] at this
    · exact h.elim
  | new k ih =>
    intro Ls s hL h
    simp only [runX] at h
    split at h
    · rename_i op ops hn hl
      split at h
      · rename_i cs t kk hw hx hd
        refine newX hE hn hl hw hx hd fun r => ?_
        have h1 := h r
        split at h1
        · rename_i v hv
          exact ⟨v, hv, ih _ Ls _ hL h1⟩
        · exact h1.elim
      · exact h.elim
    · exact h.elim
  | big z k ih =>
    intro Ls s hL h
    simp only [runX] at h
    split at h
    · rename_i op ops hn hl
      split at h
      · rename_i g args hw hx hd
        exact bigX hE hn hl hw hx hd h.1 fun A c => ih A c Ls _ hL (h.2 A c)
      · exact h.elim
    · exact h.elim
  | meet S t o ih =>
    rintro Ls s hL h
    simp only [runX] at h
    refine runR'_sound hm hE t s h.1 ?_
    rintro ⟨todo, tmps, bs, gs, rs, os, md⟩ e ⟨n, ops, listed, sb, hmd, hr⟩ ⟨ρ, α, hq⟩
    dsimp only at e hmd
    subst hmd e
    intro _ _ _ _ W ds hS hM
    have hA := ih ρ α Ls _ hL (h.2 ρ α)
    rw [← hq] at hA
    have hA' : AtG f m.ro (m.fin P f) s.todo ⟨tmps, mk m ds⟩ W := hA W ds hS hM
    cases n with
    | zero => exact anyG_done hr hA' _
    | succ n => exact anyG_done hr hA' _
  | loop I μ S o ih =>
    rintro Ls ⟨todo, tmps, bs, gs, rs, os, md⟩ hL h
    simp only [runX] at h
    split at h
    · obtain ⟨⟨ξ, hI, hl⟩, hr⟩ := h
      have key : ∀ n ξ, μ ξ = n → I ξ → AtX P f m B es ((S ξ).at todo) := by
        intro n
        induction n using Nat.strongRecOn with
        | _ n ihn =>
          intro ξ hn hI
          refine ih ξ _ _ ?_ (hr ξ hI)
          intro L hLm s hLs
          rcases List.mem_cons.1 hLm with rfl | hLm
          · obtain ⟨todo', tmps', bs', gs', rs', os', md'⟩ := s
            dsimp only at hLs
            split at hLs
            · obtain ⟨rfl, ξ', hI', hlt, hl'⟩ := hLs
              exact liteX_AtX rfl hl' (ihn _ (hn ▸ hlt) ξ' rfl hI')
            · exact hLs.elim
          · exact hL L hLm s hLs
      exact liteX_AtX rfl hl (key _ ξ rfl hI)
    · exact h.elim
  | cut T I S t o iht iho =>
    intro Ls s hL h
    simp only [runX] at h
    refine iht _ s ?_ h.1
    intro L hLm s' hLs
    rcases List.mem_cons.1 hLm with rfl | hLm
    · obtain ⟨todo', tmps', bs', gs', rs', os', md'⟩ := s'
      dsimp only at hLs
      split at hLs
      · obtain ⟨rfl, ξ, hI, hl⟩ := hLs
        exact liteX_AtX rfl hl (iho ξ Ls _ hL (h.2 ξ hI))
      · exact hLs.elim
    · exact hL L hLm s' hLs
  | again d =>
    intro Ls s hL h
    simp only [runX] at h
    split at h
    · rename_i L hd
      exact hL L (List.mem_of_getElem? hd) s h
    · exact h.elim
  | «mut» S k ih =>
    intro Ls s hL h
    simp only [runX] at h
    split at h
    · rename_i op ops hn hl
      split at h
      · rename_i g args hw hx hd
        exact mutX hE hn hl hw hx hd h.1 fun ρ => ⟨(h.2 ρ).1, ih ρ Ls _ hL (h.2 ρ).2⟩
      · exact h.elim
    · exact h.elim
  | yld S k ih =>
    intro Ls s hL h
    simp only [runX] at h
    split at h
    · rename_i op ops hn hl
      split at h
      · rename_i hw hd
        exact yldX hE hn hl hw hd h.1 fun ρ => ⟨(h.2 ρ).1, ih ρ Ls _ hL (h.2 ρ).2⟩
      · exact h.elim
    · exact h.elim
  | sem S k ih =>
    intro Ls s hL h
    simp only [runX] at h
    split at h
    · rename_i op ops hn hl
      split at h
      · rename_i hw hd
        exact semX hE hn hl hw hd h.1 fun ρ => ⟨(h.2 ρ).1, ih ρ Ls _ hL (h.2 ρ).2⟩
      · exact h.elim
    · exact h.elim
  | app tgt own src news k ih =>
    intro Ls s hL h
    simp only [runX] at h
    split at h
    · rename_i op ops hn hl
      split at h
      · rename_i x y t hw hop
        split at h
        · rename_i e b2 cs2 A n cap b2' o2 mm c2 ht hsrc hx hy
          split at h
          · rename_i i hi
            split at h
            · rename_i z hz
              obtain ⟨⟨rfl, rfl, rfl, rfl, hzs, hnews, hlen, h0, h63, hby⟩, h⟩ := h
              refine AtX.loud hE hn hl fun W ds hS hM _ j hj K _ hPP => ?_
              obtain ⟨g', cap', W', hr, hc1, hc2, hY, hS'⟩ := hS.app_nil (P := P) (t := t) (ty := op.type) ht hi hz hzs (a := ⟨b2', o2, none⟩) (m := mm) (c := c2) hlen (fun j u hu => src_cell hE hsrc hS (by rw [hnews] at hu; exact hu)) h0 h63 hby
              refine opG_of hj hw (appOf_spec hop).2 ?_
              rw [run_evalX]
              show upG P op K _ ((execOp s.ev op).run P W)
              rw [run_appOf hop s.ev (W' := W') (by rw [hx, hy]; exact hr)]
              show K ((Act.mk s.tmps (mk m ds)).put op.dst _) W'
              rw [putX_at]
              have hk := h g' cap' hc1 hc2
              exact hPP _ _ _ _ _ W' hk.1 (ih g' cap' Ls _ hL hk.2) hS' (hM.change hY (fun _ _ q => q))
            · rename_i z kk hz
              split at h
              · rename_i g xs hk
                obtain ⟨⟨rfl, hrow, hxl, hnc, hcap, hG, rfl, hzs, hnews, hlen, h1, h63, hby⟩, h⟩ := h
                refine AtX.loud hE hn hl fun W ds hS hM _ j hj K _ hPP => ?_
                obtain ⟨g', cap', W', hr, hc1, hc2, hY, hS'⟩ := hS.app_own (P := P) (t := t) (ty := op.type) ht hi hz hzs hk hrow hxl hnc hcap (appG_spec hG) (a := ⟨b2', o2, none⟩) (m := mm) (c := c2) hlen (fun j u hu => src_cell hE hsrc hS (by rw [hnews] at hu; exact hu)) h1 h63 hby
                refine opG_of hj hw (appOf_spec hop).2 ?_
                rw [run_evalX]
                show upG P op K _ ((execOp s.ev op).run P W)
                rw [run_appOf hop s.ev (W' := W') (by rw [hx, hy]; exact hr)]
                show K ((Act.mk s.tmps (mk m ds)).put op.dst _) W'
                rw [putX_at]
                have hk' := h g' cap' hc1 hc2
                exact hPP _ _ _ _ _ W' hk'.1 (ih g' cap' Ls _ hL hk'.2) hS' (hM.turn hS hk hY)
              · exact h.elim
            · exact h.elim
          · exact h.elim
        · exact h.elim
      · exact h.elim
    · exact h.elim
  | range S k ih =>
    rintro Ls ⟨todo, tmps, bs, gs, rs, os, md⟩ hL h
    simp only [runX] at h
    split at h
    · rename_i g ps assign body kk hro hdl
      exact rangeX hro hdl h.1 fun ρ => ih ρ Ls _ hL (h.2 ρ)
    · exact h.elim
  | know p k ih =>
    intro Ls s hL h
    simp only [runX] at h
    exact ih Ls s hL (h.2 h.1)
  | rest =>
    rintro Ls ⟨todo, tmps, bs, gs, rs, os, md⟩ hL h
    simp only [runX] at h
    have hB : Back P (m.fin P f) := Aim.back
    split at h
    · rename_i id ops k hro
      split at h
      · rename_i o0 o1 hops
        split at h
        · rename_i v c hw0 hd0 hv hop
          split at h
          · rename_i d hw1 hd
            intro W ds hS hM
            have hops' : ops = #[o0, o1] := by rw [← hops]
            have e0 : ops[0]? = some o0 := by rw [hops']; rfl
            have e1 : ops[1]? = some o1 := by rw [hops']; rfl
            rw [hro]
            refine AtG.step hB (fun _ _ _ => stepR_region) ?_
            have hr : List.range ops.size = [0, 1] := by rw [hops']; rfl
            rw [hr]
            refine AtG.op1 hB ?_
            refine opG_of e0 hw0 hd0 ?_
            have hv' : (execOp (Act.eval ⟨tmps, mk m ds⟩) o0).run P W = .ok (.value v) W := by rw [evalX]; exact prun_sound _ hv
            rw [hv']
            show AtG f none (m.fin P f) _ ((Act.mk tmps (mk m ds)).put o0.dst v) W
            rw [putX_at]
            refine AtG.defer hB e1 hop hw1 (d := d) (by rw [evalX]; exact prun_sound _ hd) ?_
            refine AtG.step hB (fun _ _ _ => stepR_region_end) ?_
            show AtG f none (m.fin P f) k ((Act.mk (putAt tmps o0.dst v) (d :: mk m ds)).put o1.dst undef) W
            rw [putX_at]
            exact h W ds hS hM
          · exact h.elim
        · exact h.elim
      · exact h.elim
    · exact h.elim
  | ret ks =>
    rintro Ls ⟨todo, tmps, bs, gs, rs, os, md⟩ hL h
    simp only [runX] at h
    split at h
    · rename_i fn R hf
      have key : ∀ (W : World) (ds : List Nat), Sx B W bs gs rs os → Mk B W ds → ∀ {vs : List Value} {q : Prop}, resV P bs tmps fn.results.toList ks True = some (vs, q) → q → LeafX B R bs gs rs os (oneV vs) →
          ∀ (b : Frame) (cs : List Frame) (k : List Item), b.fn = f → FinCalls P f R b.kind cs (lone { b.atR ⟨tmps, mk (.call R) ds⟩ k with mode := .returning } cs W) := by
        intro W ds hS hM vs q hr hq hl b cs k h1
        obtain ⟨W', hst, hY⟩ := close_marks (P := P) (dl := []) ds { b.atR ⟨tmps, mk (.call R) ds⟩ k with mode := .returning } cs W (by simp) (List.append_nil _).symm hM.1 (fun D hD => (hM.2 D hD).2)
        have hS' := hS.closed hM hY
        refine back_calls _ _ _ _ hst fun h2 => ⟨.returned (oneV vs), W', _, hl W' hS', Steps.refl _ _, h1, rfl, rfl, h2, fn, by rw [← hf, ← h1]; rfl, ?_⟩
        exact results_eq fn tmps (resX_sound hS' _ _ hr hq).2
      split at h
      · split at h
        · rename_i vs q hr
          intro W ds hS hM b cs h1 h3
          exact back_calls _ _ _ _ (.one (stepR_ret h3)) (key W ds hS hM hr h.1 h.2 b cs _ h1)
        · exact h.elim
      · split at h
        · rename_i vs q hr
          intro W ds hS hM b cs h1 h3
          exact back_calls _ _ _ _ (.one (stepR_end h3)) (key W ds hS hM hr h.1 h.2 b cs _ h1)
        · exact h.elim
      · exact h.elim
    · rename_i fn R hf
      have key : ∀ (W : World) (ds : List Nat), Sx B W bs gs rs os → Mk B W ds → ∀ {vs : List Value} {q : Prop}, resV P bs tmps fn.results.toList ks True = some (vs, q) → q → LeafX B R bs gs rs os (oneV vs) →
          ∀ (b : Frame) (cs : List Frame) (k : List Item), b.fn = f → FinD P R b.kind cs (lone { b.atR ⟨tmps, mk (.late R) ds⟩ k with mode := .returning } cs W) := by
        intro W ds hS hM vs q hr hq hl b cs k h1
        obtain ⟨W', hst, hY⟩ := close_marks (P := P) (dl := []) ds { b.atR ⟨tmps, mk (.late R) ds⟩ k with mode := .returning } cs W (by simp) (List.append_nil _).symm hM.1 (fun D hD => (hM.2 D hD).2)
        have hS' := hS.closed hM hY
        refine back_d _ _ _ _ hst fun h2 => ⟨.returned (oneV vs), W', _, hl W' hS', Steps.refl _ _, h2, rfl, rfl, fn, by rw [← hf, ← h1]; rfl, ?_⟩
        exact results_eq fn tmps (resX_sound hS' _ _ hr hq).2
      split at h
      · split at h
        · rename_i vs q hr
          intro W ds hS hM b cs h1 h3
          exact back_d _ _ _ _ (.one (stepR_ret h3)) (key W ds hS hM hr h.1 h.2 b cs _ h1)
        · exact h.elim
      · split at h
        · rename_i vs q hr
          intro W ds hS hM b cs h1 h3
          exact back_d _ _ _ _ (.one (stepR_end h3)) (key W ds hS hM hr h.1 h.2 b cs _ h1)
        · exact h.elim
      · exact h.elim
    · rename_i fn dl D hf
      have key : ∀ (W : World) (ds : List Nat), Sx B W bs gs rs os → Mk B W ds → LeafD B D bs gs rs os tmps →
          ∀ (b : Frame) (cs : List Frame) (k : List Item), b.fn = f → FinDoor P f dl D b.kind cs (lone { b.atR ⟨tmps, mk (.door dl D) ds⟩ k with mode := .returning } cs W) := by
        intro W ds hS hM hl b cs k h1 h2
        exact ⟨_, tmps, W, _, ds, hl W ds hS hM, Steps.refl _ _, h1, h2, rfl, by simp, rfl, rfl⟩
      split at h
      · intro W ds hS hM b cs h1 h3
        exact back_door _ _ _ _ (.one (stepR_ret h3)) (key W ds hS hM h b cs _ h1)
      · intro W ds hS hM b cs h1 h3
        exact back_door _ _ _ _ (.one (stepR_end h3)) (key W ds hS hM h b cs _ h1)
      · exact h.elim
    · exact h.elim
  | endr j =>
    rintro Ls ⟨todo, tmps, bs, gs, rs, os, md⟩ hL h
    simp only [runX] at h
    split at h
    · rename_i l R l' r hj
      split at h
      · obtain ⟨rfl, h⟩ := h
        intro W ds hS hM b cs h1 h3 h2 c cs' e
        subst e
        have hq := (hS.ob _ (List.mem_of_getElem? hj)).2
        have hend := run_endRound (P := P) none hq
        exact ⟨_, _, h _ (hS.loop hj _), .one (stepR_round_end h3 h2 hend)⟩
      · obtain ⟨rfl, h⟩ := h
        intro W ds hS hM b cs h1 h3 h2 c cs' e
        subst e
        have hq := (hS.ob _ (List.mem_of_getElem? hj)).2
        have hend := run_endRound (P := P) (some .ret) hq
        exact ⟨_, _, h _ (hS.loop hj _), .one (stepR_round_ret h3 h2 hend)⟩
      · exact h.elim
    · exact h.elim
  | die =>
    rintro Ls ⟨todo, tmps, bs, gs, rs, os, md⟩ hL h
    simp only [runX] at h
    split at h
    · rename_i ops0 rest0 op ops fn hf hn
      split at h
      · rename_i g args hw hx hd
        cases rest0 with
        | nil => simp [KX.now] at hn
        | cons i rest =>
          simp only [KX.now, Option.map_eq_some_iff, Prod.mk.injEq] at hn
          obtain ⟨o, ho, rfl, rfl⟩ := hn
          intro W ds hS hM
          refine AtG.die hB ho hw hd (w0 := W) (by rw [run_evalX]; exact prun_sound _ hx) ((h W hS).mono ?_)
          rintro e w' ⟨ch, rfl, hb, hD⟩
          refine ⟨ch, rfl, fun b cs k' h1 h3 => ?_⟩
          have hS' := hS.call hb
          have hM' := hM.call hb
          cases m with
          | call R =>
            intro hk
            obtain ⟨W', hst, hY⟩ := close_marks (P := P) (dl := []) ds { b.atR ⟨tmps, mk (.call R) ds⟩ k' with mode := .panicking ch } cs w' (by simp) (List.append_nil _).symm hM'.1 (fun D hD => (hM'.2 D hD).2)
            exact ⟨.panicked ch, W', _, hD W' (hS'.closed hM' hY), hst, h1, rfl, rfl, fn, by rw [← hf, ← h1]; rfl⟩
          | door dl D => exact fun hk => ⟨_, tmps, w', _, ds, hD w' ds hS' hM', Steps.refl _ _, h1, hk, rfl, by simp, rfl, rfl⟩
          | round l R => exact hD.elim
          | late R => exact hD.elim
      · exact h.elim
    · exact h.elim
/-- A function's contract out of a plan and what it leaves. -/
theorem calls_of_planX {R : Ending → World → Prop} (o : OX) (hm : P.follows .mixedOrders = true) {fn : Func} {c : Code} {args tmps : Array Value} {w : World} {bs : Blks} {gs : Bigs} {rs : Rws} {os : Lps} (h0 : Sx B w bs gs rs os) (hE : ExX B es) (hf : P.funcs[f]? = some fn) (hb : fn.body = some c)
    (ht : args ++ Array.replicate (fn.ntmps - args.size) undef = tmps) (h : runX P f (.call R) B es o [] ⟨[.code c], tmps, bs, gs, rs, os, .ctl⟩) : Calls P f args w R :=
  calls_of_AtG hf hb (by
    rw [ht]
    exact runX_sound hm hE o [] _ (fun _ hL => by cases hL) h w [] h0 ⟨List.nodup_nil, fun _ h => by cases h⟩)
/-- A walk that begins within a function, deferred calls laid ahead of it. -/
theorem door_of_planX {D : FrameMode → List Nat → Array Value → World → Prop} {dl : List Deferred} (o : OX) (hm : P.follows .mixedOrders = true) {k : List Item} {tmps : Array Value} {w : World} {bs : Blks} {gs : Bigs} {rs : Rws} {os : Lps} {ds : List Nat} (h0 : Sx B w bs gs rs os) (hM : Mk B w ds) (hE : ExX B es)
    (h : runX P f (.door dl D) B es o [] ⟨k, tmps, bs, gs, rs, os, .ctl⟩) : AtG f none (FinDoor P f dl D) k ⟨tmps, dl ++ marks ds⟩ w :=
  runX_sound hm hE o [] _ (fun _ hL => by cases hL) h w ds h0 hM
/-- What one deferred call is to leave behind the door. -/
def DoorEnd (P : Program) (B : Base) (fn : Func) (g : FuncId) (args : Array Value) (R : Ending → World → Prop) (u : FrameMode) (ds : List Nat) (tmps : Array Value) (w' : World) : Prop :=
  CallsD P g args u w' fun e u' w2 => settle u' = .returning ∧ ∃ v0, e = .returned v0 ∧ ∃ bs gs rs os vs ks q, Sx B w2 bs gs rs os ∧ Mk B w2 ds ∧ resV P bs tmps fn.results.toList ks True = some (vs, q) ∧ q ∧ LeafX B R bs gs rs os (oneV vs)
theorem AtG.door1 {R : Ending → World → Prop} {d : Deferred} {k : List Item} {a : Act} {w : World} {fn : Func} {fv : Fn} {cap : Array Value} {g : FuncId} {args : Array Value} (hf : P.funcs[f]? = some fn)
    (ht : d.target = .fn fv cap) (hi : ∀ w, (invoke d.target d.args).run P w = .ok (.enter g args) w)
    (h : AtG f none (FinDoor P f [d] (DoorEnd P B fn g args R)) k a w) : AtG f none (FinCalls P f R) k a w := by
  intro b cs h1 h3 hk
  obtain ⟨u, tmps, w', fr, ds, hD, hs, q1, q2, q3, q0, q4, q5⟩ := h b cs h1 h3 hk
  have s1 := step_defer (P := P) (cs := cs) (w := w') (fr := fr) (by rw [q3]; exact q0) q4 ht (hi w')
  obtain ⟨e, u', w2, frX, ⟨hu, v0, rfl, bs, gs, rs, os, vs, ks, q, hS, hM, hr, hq, hl⟩, hsteps, hkX, hgo⟩ := hD { fr with defers := marks ds } cs q3
  have s2 := step_going_returned (P := P) (c := { { fr with defers := marks ds } with mode := u' }) (cs := cs) hkX hgo
  dsimp only at s2
  rw [hu] at s2
  obtain ⟨W', hst, hY⟩ := close_marks (P := P) (dl := []) ds { { { fr with defers := marks ds } with mode := u' } with mode := .returning } cs w2 (by simp) (List.append_nil _).symm hM.1 (fun D hD => (hM.2 D hD).2)
  have hS' := hS.closed hM hY
  have hall := Steps.trans hs (.head s1 (Steps.trans hsteps (.head s2 hst)))
  refine ⟨.returned (oneV vs), W', _, hl W' hS', hall, q1, rfl, rfl, q2, fn, by rw [← hf, ← q1], ?_⟩
  have := results_eq fn tmps (resX_sound hS' _ _ hr hq).2
  rw [← q5] at this
  exact this
/-- A deferred function's contract. -/
theorem callsD_of_planX {R : Ending → World → Prop} (o : OX) (hm : P.follows .mixedOrders = true) {u : FrameMode} {fn : Func} {c : Code} {args tmps : Array Value} {w : World} {bs : Blks} {gs : Bigs} {rs : Rws} {os : Lps} (h0 : Sx B w bs gs rs os) (hE : ExX B es) (hf : P.funcs[f]? = some fn) (hb : fn.body = some c)
    (ht : args ++ Array.replicate (fn.ntmps - args.size) undef = tmps) (h : runX P f (.late R) B es o [] ⟨[.code c], tmps, bs, gs, rs, os, .ctl⟩) : CallsD P f args u w fun e u' w' => u' = u ∧ R e w' :=
  callsD_of_AtG hf hb (by
    rw [ht]
    exact runX_sound hm hE o [] _ (fun _ hL => by cases hL) h w [] h0 ⟨List.nodup_nil, fun _ h => by cases h⟩)
/-- A round's. -/
theorem rounds_of_planX {R : Value → World → Prop} (o : OX) (hm : P.follows .mixedOrders = true) {l : Nat} {tmps : Array Value} {assign body : Code} {w : World} {bs : Blks} {gs : Bigs} {rs : Rws} {os : Lps} (h0 : Sx B w bs gs rs os) (hE : ExX B es)
    (h : runX P f (.round l R) B es o [] ⟨[.code assign, .beginRound, .code body], tmps, bs, gs, rs, os, .ctl⟩) : Rounds P l f tmps assign body w R :=
  rounds_of_AtG (runX_sound hm hE o [] _ (fun _ hL => by cases hL) h w [] h0 ⟨List.nodup_nil, fun _ h => by cases h⟩)
end
end Go.Proofs.YtnmacidlgadmgaaDoor
