/- The second engine, third part: appends to rows, calls that make blocks or write listed ones, the marks' end. -/
import Derived.Test.YtnmacidlgadmgaaDoorZb
namespace Go.Proofs.YtnmacidlgadmgaaDoor
open Go.RowKit
def rowSet (rs : Rws) (k : Nat) (e : TypeId) (n : Nat) : Rws := rs.map fun r => if r.1 = k then (k, e, n) else r
section
variable {P : Program} {B : Base} {W W1 : World} {bs : Blks} {gs : Bigs} {rs : Rws} {os : Lps} {ds : List Nat}
theorem nodup_set {l : List Nat} {k b : Nat} (h : l.Nodup) (hb : ∀ x ∈ l, x ≠ b) : (l.set k b).Nodup := by
  rw [List.Nodup, List.pairwise_iff_getElem] at h ⊢
  intro i j hi hj hij
  simp only [List.length_set] at hi hj
  rw [List.getElem_set, List.getElem_set]
  have h1 := h i j hi hj hij
  split <;> split
  · omega
  · exact fun e => hb _ (List.getElem_mem hj) e.symm
  · exact hb _ (List.getElem_mem hi)
  · exact h1
/-- A block of the list gives way to a new one. -/
theorem Sx.swap (h : Sx B W bs gs rs os) {k b b' : Nat} {cs cs' : List Value} {cur : Array Value} {e : TypeId} {n : Nat} (hk : bs[k]? = some (b, cs)) (hb : B.w.heap.size ≤ b' ∨ B.X b') (hn : ∀ x ∈ bs, x.1 ≠ b')
    (ho : W.heap[b']? = some (.cells cur e (0, 0))) (hs : cur.size = n) (hc : ∀ i v, cs'[i]? = some v → W.cell? ⟨b', i, none⟩ = some v) : Sx B W (bs.set k (b', cs')) gs (rowSet rs k e n) os := by
  have hkl : k < bs.length := (List.getElem?_eq_some_iff.1 hk).1
  refine ⟨h.bx, fun x hx => ?_, ?_, h.bg, fun r hr => ?_, h.ob, h.on⟩
  · rcases List.mem_or_eq_of_mem_set hx with hx | rfl
    · exact h.blk x hx
    · exact ⟨hb, ⟨_, ho, rfl⟩, frozen_cells ho, hc⟩
  · rw [List.map_set]
    refine nodup_set h.nd fun x hx => ?_
    obtain ⟨y, hy, rfl⟩ := List.mem_map.1 hx
    exact hn y hy
  · obtain ⟨r', hr', rfl⟩ := List.mem_map.1 hr
    by_cases e1 : r'.1 = k
    · rw [if_pos e1]
      exact ⟨b', cs', cur, by simp only [List.getElem?_set, if_pos hkl, if_true], ho, hs⟩
    · rw [if_neg e1]
      obtain ⟨b1, cs1, cur1, q1, q⟩ := h.rw r' hr'
      exact ⟨b1, cs1, cur1, by rw [List.getElem?_set, if_neg (Ne.symm e1)]; exact q1, q⟩
theorem Sx.app_nil (h : Sx B W bs gs rs os) {t ty e : TypeId} {i : TypeInfo} {z : Value} (ht : P.underlying t = some (.slice e)) (hi : P.info? e = some i) (hz : i.zero = some z) (hzs : z.cells.size = i.size)
    {a : Addr} {m c : Nat} {news : List Value} (hl : news.length = m * i.size) (hnews : ∀ j u, news[j]? = some u → W.cell? (a.add j) = some u) (h0 : 0 < m) (h63 : m ≤ maxLen) (hby : m * i.bytes ≤ 140737488355328) :
    ∃ g' cap' W', (Builtin.append_ #[t, t] ty #[.slice none 0 0, .slice (some a) m c]).run P W = .ok (.slice (some ⟨g', 0, none⟩) m cap') W' ∧ m ≤ cap' ∧ cap' ≤ maxLen ∧ BelX ⟨W, fun _ => False⟩ W' ∧
      Sx B W' (bs ++ [(g', news)]) gs (rs ++ [(bs.length, e, cap' * i.size)]) os := by
  have hr := run_append_nil (P := P) W t ty e i z ht hi hz a m c news hl hnews h0 (by simp only [maxLen] at h63; omega) (by omega)
  have hge := grownCap_ge W m 0 e
  have hcm := grownCap_le_maxLen W m 0 e h63
  generalize grownCap W m 0 e = cap' at *
  have hb : Below W.heap.size W (W.drew.alloc (.cells (news.toArray ++ Builtin.zeroCells z.cells (cap' - m)) e)) := (bl_drew (Below.refl _ _)).alloc (Nat.le_refl _) _
  have hnew : (W.drew.alloc (.cells (news.toArray ++ Builtin.zeroCells z.cells (cap' - m)) e)).heap[W.heap.size]? = some (.cells (news.toArray ++ Builtin.zeroCells z.cells (cap' - m)) e (0, 0)) := World.alloc_heap_new W.drew _
  refine ⟨W.heap.size, cap', _, hr, hge, hcm, BelX.of hb, ?_⟩
  refine Sx.addRow ((h.call hb).addBlock (b := W.heap.size) (cs := news) (Or.inl h.bx.size) ⟨_, hnew, rfl⟩ (frozen_cells hnew) (fun j v hv => ?_) (fun x hx e1 => ?_)) (getElem?_end _ _) hnew ?_
  · rw [cell_cells hnew, Array.getElem?_append, if_pos (by simpa using (List.getElem?_eq_some_iff.1 hv).1)]; simpa using hv
  · have := h.lt hx; omega
  · simp only [Array.size_append, List.size_toArray, size_zeroCells, hzs, hl, ← Nat.add_mul]
    congr 1; omega
theorem Sx.app_own (h : Sx B W bs gs rs os) {t ty e : TypeId} {i : TypeInfo} {z : Value} (ht : P.underlying t = some (.slice e)) (hi : P.info? e = some i) (hz : i.zero = some z) (hzs : z.cells.size = i.size)
    {k g n cap : Nat} {xs : List Value} (hk : bs[k]? = some (g, xs)) (hrow : (k, e, cap * i.size) ∈ rs) (hn : xs.length = n * i.size) (hnc : n ≤ cap) (hcap : cap ≤ maxLen) (hgs : gs = [] ∨ cap = 0 ∨ ∃ v0, xs[0]? = some v0 ∧ digitless v0 = true)
    {a : Addr} {m c : Nat} {news : List Value} (hl : news.length = m * i.size) (hnews : ∀ j u, news[j]? = some u → W.cell? (a.add j) = some u) (h1 : ∀ u ∈ news, u.oneCell' = true) (h63 : n + m ≤ maxLen) (hby : (n + m) * i.bytes ≤ 140737488355328) :
    ∃ g' cap' W', (Builtin.append_ #[t, t] ty #[.slice (some ⟨g, 0, none⟩) n cap, .slice (some a) m c]).run P W = .ok (.slice (some ⟨g', 0, none⟩) (n + m) cap') W' ∧ n + m ≤ cap' ∧ cap' ≤ maxLen ∧ BelX ⟨W, fun b => b = g⟩ W' ∧
      Sx B W' (bs.set k (g', xs ++ news)) gs (rowSet rs k e (cap' * i.size)) os := by
  obtain ⟨b0, cs0, cur, q1, q2, q3⟩ := h.rw _ hrow
  rw [hk] at q1
  obtain ⟨rfl, rfl⟩ := Prod.mk.inj (Option.some.inj q1)
  dsimp only at q2 q3
  have hcell := (h.blk _ (List.mem_of_getElem? hk)).2.2.2
  dsimp only at hcell
  have hsz : n * i.size ≤ cur.size := by rw [q3]; exact Nat.mul_le_mul_right _ hnc
  have htake : cur.toList.take (n * i.size) = xs := by
    apply List.ext_getElem?
    intro j
    rw [List.getElem?_take]
    split
    · rename_i hj
      obtain ⟨v, hv⟩ : ∃ v, xs[j]? = some v := ⟨_, List.getElem?_eq_getElem (by omega)⟩
      have := hcell j v hv
      rw [cell_cells q2] at this
      rw [hv]; simpa using this
    · rename_i hj
      exact (List.getElem?_eq_none (by omega)).symm
  by_cases hroom : n + m ≤ cap
  · have hfit : n * i.size + news.length ≤ cur.size := by rw [hl, q3, ← Nat.add_mul]; exact Nat.mul_le_mul_right _ hroom
    have hr := run_append_room (P := P) W t ty e i ht hi g n cap cur q2 a m c news hl hnews h1 hroom hfit
    have hset := setRow_heap W g cur (cur.toList.take (n * i.size) ++ news ++ cur.toList.drop (n * i.size + news.length)).toArray e (0, 0) q2
    have hY : BelX ⟨W, fun b => b = g⟩ (W.setRow g (cur.toList.take (n * i.size) ++ news ++ cur.toList.drop (n * i.size + news.length)).toArray) := ⟨rfl, rfl, rfl, by simp [World.setRow], fun j _ hj => setRow_other W g j _ hj⟩
    refine ⟨g, cap, _, hr, hroom, hcap, hY, ?_⟩
    have hrows : rowSet rs k e (cap * i.size) = rs ∨ True := Or.inr trivial
    have hT : Sx B (W.setRow g (cur.toList.take (n * i.size) ++ news ++ cur.toList.drop (n * i.size + news.length)).toArray) (bs.set k (g, xs ++ news)) gs rs os := by
      refine h.turn hk hY (fun cur' e' z' q => ?_) (fun j v hv => ?_) (fun x hx => ?_)
      · rw [q2] at q
        obtain ⟨rfl, rfl, rfl⟩ := Obj.cells.inj (Option.some.inj q)
        refine ⟨_, hset, ?_⟩
        simp only [List.size_toArray, List.length_append, List.length_take, List.length_drop, Array.length_toList]
        omega
      · rw [cell_cells hset, htake]
        have hj := (List.getElem?_eq_some_iff.1 hv).1
        rw [List.getElem?_toArray, List.getElem?_append_left hj]
        exact hv
      · refine RB.keep (h.bg x hx) hY (fun b' v0 e1 hc => ?_)
        subst e1
        rcases hgs with rfl | rfl | ⟨v1, hv1, hd⟩
        · cases hx
        · rw [cell_cells q2] at hc
          have := (Array.getElem?_eq_some_iff.1 hc).1
          omega
        · have := hcell 0 v1 hv1
          rw [this] at hc
          rw [← Option.some.inj hc]; exact hd
    refine ⟨hT.bx, hT.blk, hT.nd, hT.bg, fun r hr => ?_, hT.ob, hT.on⟩
    obtain ⟨r', hr', rfl⟩ := List.mem_map.1 hr
    by_cases e1 : r'.1 = k
    · rw [if_pos e1]; exact hT.rw _ hrow
    · rw [if_neg e1]; exact hT.rw r' hr'
  · have holds : ∀ j u, xs[j]? = some u → W.cell? ((⟨g, 0, none⟩ : Addr).add j) = some u := fun j u hu => by rw [Addr.add_lit, Nat.zero_add]; exact hcell j u hu
    have hr := run_append_grow (P := P) W t ty e i z ht hi hz ⟨g, 0, none⟩ n cap xs hn holds a m c news hl hnews (by omega) (by simp only [maxLen] at h63; omega) (growslice_fits (by omega) hby)
    have hge := grownCap_ge W (n + m) cap e
    have hcm := grownCap_le_maxLen W (n + m) cap e h63
    generalize grownCap W (n + m) cap e = cap' at *
    have hb : Below W.heap.size W (W.drew.alloc (.cells (xs.toArray ++ news.toArray ++ Builtin.zeroCells z.cells (cap' - (n + m))) e)) := (bl_drew (Below.refl _ _)).alloc (Nat.le_refl _) _
    have hnew : (W.drew.alloc (.cells (xs.toArray ++ news.toArray ++ Builtin.zeroCells z.cells (cap' - (n + m))) e)).heap[W.heap.size]? = some (.cells (xs.toArray ++ news.toArray ++ Builtin.zeroCells z.cells (cap' - (n + m))) e (0, 0)) := World.alloc_heap_new W.drew _
    refine ⟨W.heap.size, cap', _, hr, hge, hcm, BelX.of hb, ?_⟩
    refine (h.call hb).swap hk (Or.inl h.bx.size) (fun x hx e1 => ?_) hnew ?_ (fun j v hv => ?_)
    · have := h.lt hx; omega
    · simp only [Array.size_append, List.size_toArray, size_zeroCells, hzs, hl, hn, ← Nat.add_mul]
      congr 1; omega
    · rw [cell_cells hnew]
      have hj := (List.getElem?_eq_some_iff.1 hv).1
      rw [Array.getElem?_append, if_pos (by simpa using hj)]
      simpa using hv

/-! ## Calls that write listed blocks, or make some -/
/-- Only listed blocks, and listed records, have turned. -/
def Mem (bs : Blks) (os : Lps) (W w' : World) : Prop := BelX ⟨W, fun b => (∃ x ∈ bs, x.1 = b) ∨ (∃ y ∈ os, y.1 = b)⟩ w'
theorem Mk.mem (h : Mk B W ds) (hS : Sx B W bs gs rs os) (hM : Mem bs os W W1) : Mk B W1 ds :=
  h.change hM fun _ hD hy => by
    rcases hy with ⟨x, hx, e⟩ | ⟨y, hy, e⟩
    · exact h.not_block hS hD hx e
    · exact h.not_loop hS hD hy e
/-- What a call does, its blocks handed to it. -/
def BaseOf (w : World) (bs : Blks) (os : Lps) : Base := ⟨w, fun b => (∃ x ∈ bs, x.1 = b) ∨ (∃ y ∈ os, y.1 = b)⟩
def pick (idx : List Nat) (l : Blks) : Blks := idx.filterMap fun i => l[i]?
def rowsOf (ks : List Nat) (n : Nat) (rs rs1 : Rws) (idx : List Nat) : Rws :=
  ((rs.filter fun r => !ks.contains r.1) ++ rs1.map fun r => (n + r.1, r.2)).filterMap fun r => (idx.idxOf? r.1).map (·, r.2)
theorem pick_at {idx : List Nat} {l : Blks} (h : ∀ i ∈ idx, i < List.length l) : ∀ j : Nat, (pick idx l)[j]? = (idx[j]?).bind fun (i : Nat) => l[i]? := by
  unfold pick
  induction idx with
  | nil => intro j; simp
  | cons i idx ih =>
    intro j
    have hi := h i (List.mem_cons_self ..)
    rw [List.filterMap_cons, List.getElem?_eq_getElem hi]
    cases j with
    | zero => simp [List.getElem?_eq_getElem hi]
    | succ j => simpa using ih (fun i hi => h i (List.mem_cons_of_mem _ hi)) j
theorem Sx.sel (h : Sx B W bs gs rs os) (idx : List Nat) (hlt : idx.all (fun i => decide (i < bs.length)) = true) (hnd : idx.Nodup) : Sx B W (pick idx bs) gs (rs.filterMap fun r => (idx.idxOf? r.1).map (·, r.2)) os := by
  have hlt' : ∀ i ∈ idx, i < List.length bs := fun i hi => by simpa using List.all_eq_true.1 hlt i hi
  have hp := pick_at (l := bs) (idx := idx) hlt'
  refine ⟨h.bx, fun x hx => ?_, ?_, h.bg, fun r hr => ?_, h.ob, h.on⟩
  · obtain ⟨j, _, hj⟩ := List.mem_filterMap.1 hx
    exact h.blk x (List.mem_of_getElem? hj)
  · rw [List.Nodup, List.pairwise_iff_getElem]
    intro i j hi hj hij e
    rw [List.length_map] at hi hj
    simp only [List.getElem_map] at e
    have hi' : (pick idx bs)[i]? = some (pick idx bs)[i] := List.getElem?_eq_getElem hi
    have hj' : (pick idx bs)[j]? = some (pick idx bs)[j] := List.getElem?_eq_getElem hj
    rw [hp] at hi' hj'
    obtain ⟨a, ha, hxa⟩ := Option.bind_eq_some_iff.1 hi'
    obtain ⟨b, hb, hxb⟩ := Option.bind_eq_some_iff.1 hj'
    have h1 : (bs.map (·.1))[a]? = some ((pick idx bs)[i]).1 := by rw [List.getElem?_map, hxa]; rfl
    have h2 : (bs.map (·.1))[b]? = some ((pick idx bs)[i]).1 := by rw [List.getElem?_map, hxb]; exact congrArg some e.symm
    have hab := (List.getElem?_inj (List.getElem?_eq_some_iff.1 h1).1 h.nd).1 (h1.trans h2.symm)
    subst hab
    have := (List.getElem?_inj (List.getElem?_eq_some_iff.1 ha).1 hnd).1 (ha.trans hb.symm)
    omega
  · obtain ⟨r', hr', hq⟩ := List.mem_filterMap.1 hr
    obtain ⟨p, hpp, rfl⟩ := Option.map_eq_some_iff.1 hq
    have hp' : idx[p]? = some r'.1 := by
      obtain ⟨hlt2, he2, _⟩ := List.idxOf?_eq_some_iff.1 hpp
      rw [List.getElem?_eq_getElem hlt2, he2]
    obtain ⟨b, cs, cur, q1, q2, q3⟩ := h.rw r' hr'
    refine ⟨b, cs, cur, ?_, q2, q3⟩
    rw [hp, hp']; exact q1
theorem lift_calls {X0 : Base} {bs0 bs1 : Blks} {rs1 : Rws} {os0 : Lps} {w' : World} (h : Sx B W bs [] rs os) {ks : List Nat} (hks : bs0 = ks.filterMap fun i => bs[i]?) (hos : ∀ y ∈ os0, y ∈ os) (hX0 : X0 = BaseOf W bs0 os0)
    (h1 : Sx X0 w' bs1 [] rs1 os0) {idx : List Nat} (hlt : idx.all (fun i => decide (i < bs.length + bs1.length) && !ks.contains i) = true) (hnd : idx.Nodup) :
    Mem bs os W w' ∧ Sx B w' (pick idx (bs ++ bs1)) [] (rowsOf ks bs.length rs rs1 idx) os := by
  subst hX0
  have hlt' : ∀ i ∈ idx, i < (bs ++ bs1).length ∧ i ∉ ks := fun i hi => by
    have := List.all_eq_true.1 hlt i hi
    simp only [Bool.and_eq_true, decide_eq_true_eq, Bool.not_eq_true', List.contains_eq_mem, decide_eq_false_iff_not] at this
    rw [List.length_append]; exact this
  have hb0 : ∀ x ∈ bs0, ∃ j ∈ ks, bs[j]? = some x := fun x hx => by rw [hks] at hx; exact List.mem_filterMap.1 hx
  have hbx := h1.bx
  have hM : Mem bs os W w' := by
    refine BelX.mono (X := (BaseOf W bs0 os0).X) hbx fun b _ hy => ?_
    rcases hy with ⟨x, hx, e⟩ | ⟨y, hy, e⟩
    · obtain ⟨j, _, hj⟩ := hb0 x hx
      exact Or.inl ⟨x, List.mem_of_getElem? hj, e⟩
    · exact Or.inr ⟨y, hos y hy, e⟩
  -- a block of the caller's that was not handed over
  have hinj : ∀ {i j : Nat} {x y : Nat × List Value}, bs[i]? = some x → bs[j]? = some y → x.1 = y.1 → i = j := fun {i j x y} hi hj e => by
    have h1 : (bs.map (·.1))[i]? = some x.1 := by rw [List.getElem?_map, hi]; rfl
    have h2 : (bs.map (·.1))[j]? = some x.1 := by rw [List.getElem?_map, hj, e]; rfl
    exact (List.getElem?_inj (List.getElem?_eq_some_iff.1 h1).1 h.nd).1 (h1.trans h2.symm)
  have hnot : ∀ {i : Nat} {x : Nat × List Value}, i ∉ ks → bs[i]? = some x → ¬ (BaseOf W bs0 os0).X x.1 := fun {i x} hi hx hy => by
    rcases hy with ⟨y, hy, e⟩ | ⟨y, hy, e⟩
    · obtain ⟨j, hj, hbj⟩ := hb0 y hy
      exact hi (hinj hbj hx e ▸ hj)
    · exact h.not_loop (List.mem_of_getElem? hx) (hos y hy) e.symm
  have hkeep : ∀ {i : Nat} {x : Nat × List Value}, i ∉ ks → bs[i]? = some x → w'.heap[x.1]? = W.heap[x.1]? := fun {i x} hi hx =>
    hbx.block x.1 (h.lt (List.mem_of_getElem? hx)) (hnot hi hx)
  have hcat : ∀ {i : Nat} {x : Nat × List Value}, (bs ++ bs1)[i]? = some x → (i < bs.length ∧ bs[i]? = some x) ∨ (bs.length ≤ i ∧ bs1[i - bs.length]? = some x) := fun {i x} hx => by
    rcases Nat.lt_or_ge i bs.length with q | q
    · rw [List.getElem?_append_left q] at hx; exact Or.inl ⟨q, hx⟩
    · rw [List.getElem?_append_right q] at hx; exact Or.inr ⟨q, hx⟩
  have hnew : ∀ {x : Nat × List Value}, x ∈ bs1 → W.heap.size ≤ x.1 ∨ (BaseOf W bs0 os0).X x.1 := fun {x} hx => (h1.blk x hx).1
  have hpick := pick_at (l := bs ++ bs1) (fun i hi => (hlt' i hi).1)
  refine ⟨hM, ?_, ?_, ?_, fun _ hg => (by cases hg), ?_, ?_, h.on⟩
  · refine h.bx.change hbx fun b _ hy => ?_
    rcases hy with ⟨x, hx, e⟩ | ⟨y, hy, e⟩
    · obtain ⟨j, _, hj⟩ := hb0 x hx
      rw [← e]; exact (h.blk x (List.mem_of_getElem? hj)).1
    · rw [← e]; exact (h.ob y (hos y hy)).1
  · intro x hx
    obtain ⟨i, hi, hx⟩ := List.mem_filterMap.1 hx
    rcases hcat hx with ⟨_, hx⟩ | ⟨_, hx⟩
    · have hb := hkeep (hlt' i hi).2 hx
      obtain ⟨q1, ⟨o, q2, q3⟩, q4, q5⟩ := h.blk x (List.mem_of_getElem? hx)
      exact ⟨q1, ⟨o, hb.trans q2, q3⟩, fun i => (World.frozen?_of_block (a := ⟨x.1, i, none⟩) hb).trans (q4 i), fun i v hv => (World.cell?_of_block (a := ⟨x.1, i, none⟩) hb).trans (q5 i v hv)⟩
    · obtain ⟨q1, q⟩ := h1.blk x (List.mem_of_getElem? hx)
      refine ⟨?_, q⟩
      rcases q1 with q1 | ⟨y, hy, e⟩ | ⟨y, hy, e⟩
      · exact Or.inl (Nat.le_trans h.bx.size q1)
      · obtain ⟨j, _, hj⟩ := hb0 y hy
        rw [← e]; exact (h.blk y (List.mem_of_getElem? hj)).1
      · rw [← e]; exact (h.ob y (hos y hy)).1
  · rw [List.Nodup, List.pairwise_iff_getElem]
    intro i j hi hj hij e
    rw [List.length_map] at hi hj
    simp only [List.getElem_map] at e
    have hi' : (pick idx (bs ++ bs1))[i]? = some (pick idx (bs ++ bs1))[i] := List.getElem?_eq_getElem hi
    have hj' : (pick idx (bs ++ bs1))[j]? = some (pick idx (bs ++ bs1))[j] := List.getElem?_eq_getElem hj
    rw [hpick] at hi' hj'
    obtain ⟨a, ha, hxa⟩ := Option.bind_eq_some_iff.1 hi'
    obtain ⟨b, hb, hxb⟩ := Option.bind_eq_some_iff.1 hj'
    have hab : a ≠ b := fun q => by
      subst q
      have := (List.getElem?_inj (List.getElem?_eq_some_iff.1 ha).1 hnd).1 (ha.trans hb.symm)
      omega
    have ka := (hlt' a (List.mem_of_getElem? ha)).2
    have kb := (hlt' b (List.mem_of_getElem? hb)).2
    generalize (pick idx (bs ++ bs1))[i] = x at *
    generalize (pick idx (bs ++ bs1))[j] = y at *
    rcases hcat hxa with ⟨la, ha'⟩ | ⟨la, ha'⟩ <;> rcases hcat hxb with ⟨lb, hb'⟩ | ⟨lb, hb'⟩
    · exact hab (hinj ha' hb' e)
    · rcases hnew (List.mem_of_getElem? hb') with q | q
      · have := h.lt (List.mem_of_getElem? ha'); omega
      · exact hnot ka ha' (e ▸ q)
    · rcases hnew (List.mem_of_getElem? ha') with q | q
      · have := h.lt (List.mem_of_getElem? hb'); omega
      · exact hnot kb hb' (e ▸ q)
    · have h1' : (bs1.map (·.1))[a - bs.length]? = some x.1 := by rw [List.getElem?_map, ha']; rfl
      have h2' : (bs1.map (·.1))[b - bs.length]? = some x.1 := by rw [List.getElem?_map, hb', e]; rfl
      have := (List.getElem?_inj (List.getElem?_eq_some_iff.1 h1').1 h1.nd).1 (h1'.trans h2'.symm)
      omega
  · intro r hr
    obtain ⟨r', hr', hq⟩ := List.mem_filterMap.1 hr
    obtain ⟨p, hp, rfl⟩ := Option.map_eq_some_iff.1 hq
    have hp' : idx[p]? = some r'.1 := by
      obtain ⟨hlt2, he2, _⟩ := List.idxOf?_eq_some_iff.1 hp
      rw [List.getElem?_eq_getElem hlt2, he2]
    have hnk := (hlt' _ (List.mem_of_getElem? hp')).2
    rcases List.mem_append.1 hr' with hr' | hr'
    · obtain ⟨hr', _⟩ := List.mem_filter.1 hr'
      obtain ⟨b, cs, cur, q1, q2, q3⟩ := h.rw r' hr'
      refine ⟨b, cs, cur, ?_, (hkeep hnk q1).trans q2, q3⟩
      rw [hpick, hp']
      show (bs ++ bs1)[r'.1]? = _
      exact getElem?_of_append q1
    · obtain ⟨r1, hr1, rfl⟩ := List.mem_map.1 hr'
      obtain ⟨b, cs, cur, q1, q2, q3⟩ := h1.rw r1 hr1
      refine ⟨b, cs, cur, ?_, q2, q3⟩
      rw [hpick, hp']
      show (bs ++ bs1)[bs.length + r1.1]? = _
      rw [List.getElem?_append_right (by omega), show bs.length + r1.1 - bs.length = r1.1 from by omega]
      exact q1
  · intro y hy
    refine ⟨(h.ob y hy).1, ?_⟩
    by_cases hy0 : y ∈ os0
    · exact (h1.ob y hy0).2
    · refine (hbx.block y.1 (Array.getElem?_eq_some_iff.1 (h.ob y hy).2).1 ?_).trans (h.ob y hy).2
      rintro (⟨x, hx, e⟩ | ⟨y0, hy', e⟩)
      · obtain ⟨j, _, hj⟩ := hb0 x hx
        exact h.not_loop (List.mem_of_getElem? hj) hy e
      · obtain ⟨i, hi⟩ := List.mem_iff_getElem?.1 hy
        obtain ⟨j, hj⟩ := List.mem_iff_getElem?.1 (hos y0 hy')
        have h1' : (os.map (·.1))[i]? = some y.1 := by rw [List.getElem?_map, hi]; rfl
        have h2' : (os.map (·.1))[j]? = some y.1 := by rw [List.getElem?_map, hj, ← e]; rfl
        have hij := (List.getElem?_inj (List.getElem?_eq_some_iff.1 h1').1 h.on).1 (h1'.trans h2'.symm)
        subst hij
        rw [hi] at hj
        obtain rfl := Option.some.inj hj
        exact hy0 hy'

/-! ## The marks' end -/
theorem close_marks {dl : List Deferred} : ∀ (ds : List Nat) (fr : Frame) (cs : List Frame) (W : World), fr.mode ≠ .run → fr.defers = marks ds ++ dl → ds.Nodup → (∀ D ∈ ds, W.heap[D]? = some (.deferred (some []))) →
    ∃ W', Steps P (lone fr cs W) (lone { fr with defers := dl } cs W') ∧ BelX ⟨W, fun b => b ∈ ds⟩ W' := by
  intro ds
  induction ds with
  | nil =>
    intro fr cs W _ hd _ _
    refine ⟨W, ?_, BelX.refl⟩
    have : { fr with defers := dl } = fr := by cases fr; simp_all [marks]
    rw [this]; exact Steps.refl _ _
  | cons D ds ih =>
    intro fr cs W hm hd hn hD
    obtain ⟨hn1, hn2⟩ := List.nodup_cons.1 hn
    have hs := step_collected (P := P) (cs := cs) (fr := fr) (w := W) (d := { target := .collected D, args := #[] }) (r := D) (ds := marks ds ++ dl) hm hd rfl (run_takeDeferred (hD D (List.mem_cons_self ..)))
    obtain ⟨W', hst, hb⟩ := ih { fr with defers := [] ++ (marks ds ++ dl) } cs (W.putObj D (.deferred none)) hm rfl hn2 (fun D' hD' => (World.putObj_heap_other (fun e => hn1 (by rw [← e]; exact hD'))).trans (hD D' (List.mem_cons_of_mem _ hD')))
    refine ⟨W', .head hs hst, ?_⟩
    have h0 := belX_putObj W D (.deferred none)
    exact ⟨hb.os.trans h0.os, hb.tape.trans h0.tape, hb.output.trans h0.output, Nat.le_trans h0.size hb.size, fun k hk hnk => by
      refine (hb.block k (by simpa using hk) (fun q => hnk (List.mem_cons_of_mem _ q))).trans (h0.block k hk (fun q => hnk (by rw [show k = D from q]; exact List.mem_cons_self ..)))⟩
theorem Sx.closed (h : Sx B W bs gs rs os) (hM : Mk B W ds) (hY : BelX ⟨W, fun b => b ∈ ds⟩ W1) : Sx B W1 bs gs rs os :=
  h.change hY (fun b _ hb => Or.inl (hM.2 b hb).1) (fun x hx hb => hM.not_block h hb hx rfl) (fun g hg => RB.keep (h.bg g hg) hY (fun b v0 hb hc => by
    unfold World.cell? at hc
    dsimp only at hc
    rw [(hM.2 b hb).2] at hc
    cases hc)) (fun y hy hb => hM.not_loop h hb hy rfl)
end
end Go.Proofs.YtnmacidlgadmgaaDoor
