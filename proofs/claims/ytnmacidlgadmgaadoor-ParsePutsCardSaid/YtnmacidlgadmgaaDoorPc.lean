/- Strings in plans: a string's bytes appended to a row of bytes; strings.Builder's copy check; what is read of the library's variables. -/
import Derived.Test.YtnmacidlgadmgaaDoorPa
import Derived.Test.YtnmacidlgadmgaaDoorPb
import Derived.Test.YtnmacidlgadmgaaDoorZl
import Derived.Lib.OthersKept
namespace Go.Proofs.YtnmacidlgadmgaaDoor
open Go.RowKit
/-- A capacity at or above n, whatever q is. -/
def capF (n q : Nat) : Nat := n + min q (maxLen - n)
theorem capF_ge (n q : Nat) : n ≤ capF n q := Nat.le_add_right _ _
theorem capF_le {n : Nat} (h : n ≤ maxLen) (q : Nat) : capF n q ≤ maxLen := by unfold capF; omega
theorem capF_of {n c : Nat} (h1 : n ≤ c) (h2 : c ≤ maxLen) : capF n (c - n) = c := by unfold capF; omega
/-- append, as an operation. -/
def appS (t u ty : TypeId) (a b : Value) : Sem Next := do pure (.value (← Builtin.append_ #[t, u] ty #[a, b]))
theorem run_appS {t u ty : TypeId} {a b : Value} {P : Program} {W W' : World} {v : Value} (h : (Builtin.append_ #[t, u] ty #[a, b]).run P W = .ok v W') : (appS t u ty a b).run P W = .ok (.value v) W' := by
  unfold appS; rw [Sem.run_bind, h]; rfl
abbrev u8T : TypeId := 5
theorem u8_facts : Tryd.prog.underlying 36 = some (.slice u8T) ∧ Tryd.prog.underlying 9 = some .string := ⟨by kernel_rfl, by kernel_rfl⟩
theorem u8_info : ∃ i : TypeInfo, Tryd.prog.info? u8T = some i ∧ i.zero = some (.int .u8 0) ∧ i.size = 1 ∧ i.bytes = 1 := by
  have h : (Tryd.prog.info? u8T).map (fun i => (i.zero, i.size, i.bytes)) = some (some (.int .u8 0), 1, 1) := by kernel_rfl
  obtain ⟨i, hi, h2⟩ := Option.map_eq_some_iff.1 h
  simp only [Prod.mk.injEq] at h2
  exact ⟨i, hi, h2.1, h2.2.1, h2.2.2⟩
theorem Mk.belX {B : Base} {W W1 : World} {ds : List Nat} {bs : Blks} {gs : Bigs} {rs : Rws} {os : Lps} (h : Mk B W ds) (hS : Sx B W bs gs rs os) {Y : Nat → Prop} (hY : BelX ⟨W, Y⟩ W1) (hy : ∀ b, Y b → ∃ x ∈ bs, x.1 = b) : Mk B W1 ds :=
  h.change hY fun _ hD q => by obtain ⟨x, hx, e⟩ := hy _ q; exact h.not_block hS hD hx e
section
variable {B : Base} {bs : Blks} {rs : Rws} {os : Lps}
/-- onto nil -/
theorem app_str0 {s : ByteArray} (xs : List UInt8) (hx : xs = s.data.toList) (h0 : 0 < s.size) (hl : s.size ≤ 140737488355328) :
    SemX Tryd.prog B bs [] rs os (appS 36 9 36 (.slice none 0 0) (.string s)) (fun ρ => (.slice (some ⟨ρ 0, 0, none⟩) xs.length (capF xs.length (ρ 1)), bs ++ [(ρ 0, Lib.byteCells xs)], rs ++ [(bs.length, u8T, capF xs.length (ρ 1))])) := by
  intro W hS
  obtain ⟨i, hi, hz, hs1, hb1⟩ := u8_info
  have hsz : xs.length = s.size := by rw [hx, Array.length_toList]; rfl
  have hm : s.size ≤ maxLen := by simp only [maxLen]; omega
  have hr := run_append_nil_string (P := Tryd.prog) W 36 9 36 u8T i (.int .u8 0) u8_facts.1 u8_facts.2 hi hz s h0 (by omega) (by rw [hb1]; omega)
  have hge := grownCap_ge W s.size 0 u8T
  have hcm := grownCap_le_maxLen W s.size 0 u8T hm
  generalize grownCap W s.size 0 u8T = cap at *
  have e1 : (s.data.map fun b => Value.int .u8 b.toNat) = (Lib.byteCells xs).toArray := by
    apply Array.ext'
    simp [Lib.byteCells, hx]
  rw [e1] at hr
  have hc : capF xs.length (cap - xs.length) = cap := capF_of (by omega) hcm
  have hb : Below W.heap.size W (W.drew.alloc (.cells ((Lib.byteCells xs).toArray ++ Builtin.zeroCells (Value.int .u8 0).cells (cap - s.size)) u8T)) := (bl_drew (Below.refl _ _)).alloc (Nat.le_refl _) _
  have hnew : (W.drew.alloc (.cells ((Lib.byteCells xs).toArray ++ Builtin.zeroCells (Value.int .u8 0).cells (cap - s.size)) u8T)).heap[W.heap.size]? = some (.cells ((Lib.byteCells xs).toArray ++ Builtin.zeroCells (Value.int .u8 0).cells (cap - s.size)) u8T (0, 0)) := World.alloc_heap_new W.drew _
  refine ⟨fun k => if k = 0 then W.heap.size else cap - xs.length, _, ?_, fun ds hM => hM.call hb, ?_⟩
  · rw [run_appS hr]; simp only [if_true, Nat.one_ne_zero, if_false]; rw [hc, hsz]
  · simp only [if_true, Nat.one_ne_zero, if_false, hc]
    refine Sx.addRow ((hS.call hb).addBlock (b := W.heap.size) (cs := Lib.byteCells xs) (Or.inl hS.bx.size) ⟨_, hnew, rfl⟩ (frozen_cells hnew) (fun j v hv => ?_) (fun x hx' e1 => ?_)) (getElem?_end _ _) hnew ?_
    · rw [cell_cells hnew, Array.getElem?_append, if_pos (by simpa using (List.getElem?_eq_some_iff.1 hv).1)]; simpa using hv
    · have := hS.lt hx'; omega
    · have hz1 : (Value.int IntKind.u8 0).cells.size = 1 := rfl
      simp only [Array.size_append, List.size_toArray, size_zeroCells, hz1, Lib.byteCells_length, hsz]; omega
/-- onto a row -/
theorem app_str1 (k : Nat) {g q : Nat} {xs : List UInt8} {s : ByteArray} (ys : List UInt8) (hy : ys = xs ++ s.data.toList) (hk : bs[k]? = some (g, Lib.byteCells xs)) (hrow : (k, u8T, capF xs.length q) ∈ rs) (hl : ys.length ≤ 140737488355328) :
    SemX Tryd.prog B bs [] rs os (appS 36 9 36 (.slice (some ⟨g, 0, none⟩) xs.length (capF xs.length q)) (.string s)) (fun ρ => (.slice (some ⟨ρ 0, 0, none⟩) ys.length (capF ys.length (ρ 1)), bs.set k (ρ 0, Lib.byteCells ys), rowSet rs k u8T (capF ys.length (ρ 1)))) := by
  intro W hS
  obtain ⟨i, hi, hz, hs1, hb1⟩ := u8_info
  have hsz : s.data.toList.length = s.size := by rw [Array.length_toList]; rfl
  have hyl : ys.length = xs.length + s.size := by rw [hy, List.length_append, hsz]
  have hm : ys.length ≤ maxLen := by simp only [maxLen]; omega
  obtain ⟨b0, cs0, cur, q1, q2, q3⟩ := hS.rw _ hrow
  rw [hk] at q1
  obtain ⟨rfl, rfl⟩ := Prod.mk.inj (Option.some.inj q1)
  dsimp only at q2 q3
  have hcell := (hS.blk _ (List.mem_of_getElem? hk)).2.2.2
  dsimp only at hcell
  have hcap := capF_ge xs.length q
  have htake : cur.toList.take xs.length = Lib.byteCells xs := by
    apply List.ext_getElem?
    intro j
    rw [List.getElem?_take]
    split
    · rename_i hj
      obtain ⟨v, hv⟩ : ∃ v, (Lib.byteCells xs)[j]? = some v := ⟨_, List.getElem?_eq_getElem (by rw [Lib.byteCells_length]; exact hj)⟩
      have := hcell j v hv
      rw [cell_cells q2] at this
      rw [hv]; simpa using this
    · rename_i hj
      exact (List.getElem?_eq_none (by rw [Lib.byteCells_length]; omega)).symm
  have hyb : Lib.byteCells ys = Lib.byteCells xs ++ Lib.strCells s := by rw [hy]; simp [Lib.byteCells, Lib.strCells]
  have hcm := capF_le (n := xs.length) (by omega) q
  generalize capF xs.length q = cap at *
  by_cases hroom : xs.length + s.size ≤ cap
  · have hr := Lib.run_append_room_string (P := Tryd.prog) W 36 9 36 u8T i u8_facts.1 u8_facts.2 hi hs1 g xs.length cap cur q2 s hroom (by omega)
    rw [htake, ← hyb] at hr
    have hset := setRow_heap W g cur (Lib.byteCells ys ++ cur.toList.drop (xs.length + s.size)).toArray u8T (0, 0) q2
    have hY : BelX ⟨W, fun b => b = g⟩ (W.setRow g (Lib.byteCells ys ++ cur.toList.drop (xs.length + s.size)).toArray) := ⟨rfl, rfl, rfl, by simp [World.setRow], fun j _ hj => setRow_other W g j _ hj⟩
    have hcc : capF ys.length (cap - ys.length) = cap := capF_of (by omega) hcm
    have hsize : (Lib.byteCells ys ++ cur.toList.drop (xs.length + s.size)).toArray.size = cur.size := by
      simp only [List.size_toArray, List.length_append, Lib.byteCells_length, List.length_drop, Array.length_toList]; omega
    have hT : Sx B (W.setRow g (Lib.byteCells ys ++ cur.toList.drop (xs.length + s.size)).toArray) (bs.set k (g, Lib.byteCells ys)) [] rs os := by
      refine hS.turn hk hY (fun cur' e' z' q => ?_) (fun j v hv => ?_) (fun x hx => by cases hx)
      · rw [q2] at q
        obtain ⟨rfl, rfl, rfl⟩ := Obj.cells.inj (Option.some.inj q)
        exact ⟨_, hset, hsize⟩
      · rw [cell_cells hset]
        have hj := (List.getElem?_eq_some_iff.1 hv).1
        rw [List.getElem?_toArray, List.getElem?_append_left hj]
        exact hv
    refine ⟨fun j => if j = 0 then g else cap - ys.length, _, ?_, fun ds hM => hM.belX hS hY (fun b e => ⟨_, List.mem_of_getElem? hk, e.symm⟩), ?_⟩
    · rw [run_appS hr]
      simp only [if_true, Nat.one_ne_zero, if_false]
      rw [hcc, hyl]
    · simp only [if_true, Nat.one_ne_zero, if_false]
      rw [hcc]
      refine ⟨hT.bx, hT.blk, hT.nd, hT.bg, fun r hr => ?_, hT.ob, hT.on⟩
      obtain ⟨r', hr', rfl⟩ := List.mem_map.1 hr
      by_cases e1 : r'.1 = k
      · rw [if_pos e1]; exact hT.rw _ hrow
      · rw [if_neg e1]; exact hT.rw r' hr'
  · have holds : ∀ j u, (Lib.byteCells xs)[j]? = some u → W.cell? ((⟨g, 0, none⟩ : Addr).add j) = some u := fun j u hu => by rw [Addr.add_lit, Nat.zero_add]; exact hcell j u hu
    have hr := Lib.run_append_grow_string (P := Tryd.prog) W 36 9 36 u8T i (.int .u8 0) u8_facts.1 u8_facts.2 hi hz ⟨g, 0, none⟩ xs.length cap (Lib.byteCells xs) (by rw [Lib.byteCells_length, hs1, Nat.mul_one]) holds s (by omega) (by omega) (by rw [hb1]; exact growslice_fits (by omega) (by omega))
    have hge := grownCap_ge W (xs.length + s.size) cap u8T
    have hcm := grownCap_le_maxLen W (xs.length + s.size) cap u8T (by omega)
    generalize grownCap W (xs.length + s.size) cap u8T = cap' at *
    rw [show (Lib.byteCells xs).toArray ++ (Lib.strCells s).toArray = (Lib.byteCells ys).toArray from by rw [hyb]; simp] at hr
    have hb : Below W.heap.size W (W.drew.alloc (.cells ((Lib.byteCells ys).toArray ++ Builtin.zeroCells (Value.int .u8 0).cells (cap' - (xs.length + s.size))) u8T)) := (bl_drew (Below.refl _ _)).alloc (Nat.le_refl _) _
    have hnew : (W.drew.alloc (.cells ((Lib.byteCells ys).toArray ++ Builtin.zeroCells (Value.int .u8 0).cells (cap' - (xs.length + s.size))) u8T)).heap[W.heap.size]? = some (.cells ((Lib.byteCells ys).toArray ++ Builtin.zeroCells (Value.int .u8 0).cells (cap' - (xs.length + s.size))) u8T (0, 0)) := World.alloc_heap_new W.drew _
    have hc : capF ys.length (cap' - ys.length) = cap' := capF_of (by omega) hcm
    refine ⟨fun j => if j = 0 then W.heap.size else cap' - ys.length, _, ?_, fun ds hM => hM.call hb, ?_⟩
    · rw [run_appS hr]; simp only [if_true, Nat.one_ne_zero, if_false]; rw [hc, hyl]
    · simp only [if_true, Nat.one_ne_zero, if_false, hc]
      refine (hS.call hb).swap hk (Or.inl hS.bx.size) (fun x hx e1 => ?_) hnew ?_ (fun j v hv => ?_)
      · have := hS.lt hx; omega
      · have hz1 : (Value.int IntKind.u8 0).cells.size = 1 := rfl
        simp only [Array.size_append, List.size_toArray, size_zeroCells, hz1, Lib.byteCells_length, hyl]; omega
      · rw [cell_cells hnew]
        have hj := (List.getElem?_eq_some_iff.1 hv).1
        rw [Array.getElem?_append, if_pos (by simpa using hj)]
        simpa using hv

/-! ### strings.Builder's copy check -/
abbrev bdT : TypeId := 38
theorem cc_fresh (k : Nat) {b : Nat} {v : Value} (hk : bs[k]? = some (b, [.pointer none, v])) (hrow : (k, bdT, 2) ∈ rs) :
    CallMX Tryd.prog B bs [] rs os 28 #[.pointer (some ⟨b, 0, none⟩)] (fun _ => (.tuple #[], bs.set k (b, [.pointer (some ⟨b, 0, none⟩), v]), rs)) := by
  intro W hS
  obtain ⟨b0, cs0, cur, q1, q2, q3⟩ := hS.rw _ hrow
  rw [hk] at q1
  obtain ⟨rfl, rfl⟩ := Prod.mk.inj (Option.some.inj q1)
  dsimp only at q2 q3
  have h0 := hS.cell k 0 hk rfl
  refine (Any.Builder_copyCheck_fresh { Tryd.lays166 with } Tryd.Builder_Extra_166.toX72 b W h0 (by simp [World.shape?, q2, q3]; rfl) (frozen_cells q2 0)).mono ?_
  rintro e w' ⟨rfl, rfl⟩
  exact ⟨fun _ => 0, rfl, fun ds hM => hM.belX hS (belX_set W b 0 _) (fun i e => ⟨_, List.mem_of_getElem? hk, e.symm⟩), hS.set k 0 hk (by simp) (Or.inl rfl) _⟩
theorem cc_used (k : Nat) {b : Nat} {v : Value} (hk : bs[k]? = some (b, [.pointer (some ⟨b, 0, none⟩), v])) :
    CallVX Tryd.prog B bs [] rs os 28 #[.pointer (some ⟨b, 0, none⟩)] (.tuple #[]) := fun W hS =>
  (Any.Builder_copyCheck_used { Tryd.lays166 with } Tryd.Builder_Extra_166.toX72 b W (hS.cell k 0 hk rfl)).mono fun _ _ ⟨h1, h2⟩ => ⟨h1, h2 ▸ Below.refl _ _⟩
/-- What the builder holds, as a string; what was known is let go. -/
theorem bd_string (k g : Nat) {b r q : Nat} {xs : List UInt8} {p : Value} (hp : p = .pointer (some ⟨b, 0, none⟩)) (hX : ∀ i, ¬ B.X i) (hk : bs[k]? = some (b, [p, .slice (some ⟨r, 0, none⟩) xs.length (capF xs.length q)])) (hg : bs[g]? = some (r, Lib.byteCells xs)) (hrk : (k, bdT, 2) ∈ rs) (hrg : (g, u8T, capF xs.length q) ∈ rs) (hm : xs.length ≤ maxLen) :
    CallMX Tryd.prog B bs [] rs os 13 #[.pointer (some ⟨b, 0, none⟩)] (fun _ => (.string ⟨xs.toArray⟩, [], [])) := by
  subst hp
  intro W hS
  obtain ⟨b0, cs0, cur, q1, q2, q3⟩ := hS.rw _ hrk
  rw [hk] at q1
  obtain ⟨rfl, rfl⟩ := Prod.mk.inj (Option.some.inj q1)
  obtain ⟨b1, cs1, cur1, p1, p2, p3⟩ := hS.rw _ hrg
  rw [hg] at p1
  obtain ⟨rfl, rfl⟩ := Prod.mk.inj (Option.some.inj p1)
  dsimp only at q2 q3 p2 p3
  have hbk := hS.blk _ (List.mem_of_getElem? hk)
  have hbg := hS.blk _ (List.mem_of_getElem? hg)
  have hB1 : B.w.heap.size ≤ b := hbk.1.resolve_right (hX _)
  have hB2 : B.w.heap.size ≤ r := hbg.1.resolve_right (hX _)
  have hcur : cur = #[.pointer (some ⟨b, 0, none⟩), .slice (some ⟨r, 0, none⟩) xs.length (capF xs.length q)] := by
    have a0 := hbk.2.2.2 0 _ rfl
    have a1 := hbk.2.2.2 1 _ rfl
    rw [cell_cells q2] at a0 a1
    apply Array.ext'
    apply List.ext_getElem?
    intro j
    match j with
    | 0 => simpa using a0
    | 1 => simpa using a1
    | j + 2 => simp; omega
  rw [hcur] at q2
  have htake : cur1.toList.take (xs.length * 1) = Lib.byteCells xs := by
    rw [Nat.mul_one]
    apply List.ext_getElem?
    intro j
    rw [List.getElem?_take]
    split
    · rename_i hj
      obtain ⟨v, hv⟩ : ∃ v, (Lib.byteCells xs)[j]? = some v := ⟨_, List.getElem?_eq_getElem (by rw [Lib.byteCells_length]; exact hj)⟩
      have := hbg.2.2.2 j v hv
      rw [cell_cells p2] at this
      rw [hv]; simpa using this
    · rename_i hj
      exact (List.getElem?_eq_none (by rw [Lib.byteCells_length]; omega)).symm
  have hne : r ≠ b := by
    intro e
    rw [e, q2] at p2
    have := (Obj.cells.inj (Option.some.inj p2)).2.1
    exact absurd this (by decide)
  have hbd : Lib.IsBuilderF bdT u8T B.w.heap.size b (Lib.byteCells xs) W := Or.inr ⟨hB1, _, q2, ⟨by simp [Lib.byteCells_length], Or.inr ⟨r, _, cur1, (0, 0), by rw [Lib.byteCells_length], hB2, p2, Nat.zero_le _, by rw [Lib.byteCells_length]; exact capF_ge _ _, capF_le hm _, by rw [p3, Nat.mul_one], by rw [Lib.byteCells_length]; exact htake⟩⟩, by simp [Value.ownBlock, hne]⟩
  refine (Tryd.Builder_String_any_k B.w.heap.size b xs W hbd hS.bx.size).mono ?_
  rintro e w' ⟨rfl, _, hb, hk'⟩
  refine ⟨fun _ => 0, rfl, fun ds hM => ⟨hM.1, fun D hD => ⟨(hM.2 D hD).1, hk' D _ (hM.2 D hD).2 (fun e => ?_) (fun c fz e => by cases e)⟩⟩, ⟨⟨hb.os.trans hS.bx.os, hb.tape.trans hS.bx.tape, hb.output.trans hS.bx.output, Nat.le_trans hS.bx.size hb.size, fun i hi hn => (hb.block i hi).trans (hS.bx.block i hi hn)⟩, fun _ h => (by cases h), List.nodup_nil, fun _ h => (by cases h), fun _ h => (by cases h), fun y hy => ⟨(hS.ob y hy).1, hk' y.1 _ (hS.ob y hy).2 (fun e => hS.not_loop (List.mem_of_getElem? hk) hy (Option.some.inj e).symm) (fun c fz e => by cases e)⟩, hS.on⟩⟩
  · exact hM.not_block hS hD (List.mem_of_getElem? hk) (Option.some.inj e).symm
end
end Go.Proofs.YtnmacidlgadmgaaDoor
