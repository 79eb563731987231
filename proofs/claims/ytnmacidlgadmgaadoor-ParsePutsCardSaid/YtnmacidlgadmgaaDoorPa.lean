/- Layer 14 (parse), plain: a configuration's text, its lines, its numbers. No Go in sight. -/
import Derived.Lib.SplitLaws
import Derived.Lib.ItoaLen
import Derived.Lib.ParseIntB
import Derived.Test.YtnmacidlgadmgaaDoorWa
namespace Go.Proofs.YtnmacidlgadmgaaDoor
open Go.Lib

/-! ### Numerals -/
theorem dig_nat {d : Nat} (h : d < 10) : (UInt8.ofNat (48 + d)).toNat = 48 + d := by
  rw [UInt8.toNat_ofNat']; omega
theorem dec_all (u : Nat) : ∀ b ∈ decDigits u, 48 ≤ b.toNat ∧ b.toNat ≤ 57 := by
  induction u using Nat.strongRecOn with
  | _ u ih =>
    intro b hb
    rw [decDigits] at hb
    split at hb
    · rename_i h
      rw [List.mem_singleton.1 hb, dig_nat h]; omega
    · rename_i h
      rcases List.mem_append.1 hb with hb | hb
      · exact ih (u / 10) (by omega) b hb
      · rw [List.mem_singleton.1 hb, dig_nat (Nat.mod_lt _ (by decide))]
        have := Nat.mod_lt u (show 0 < 10 by decide); omega
theorem dec_ne (u : Nat) : decDigits u ≠ [] := by
  rw [decDigits]; split
  · simp
  · simp
theorem parse_snoc (M : Nat) : ∀ (l : List UInt8) (acc v d : Nat), parseUintM M acc l = .ok v → v < 1844674407370955162 → d < 10 → v * 10 + d ≤ M → parseUintM M acc (l ++ [UInt8.ofNat (48 + d)]) = .ok (v * 10 + d)
  | [], acc, v, d, h, hv, hd, hM => by
    simp only [parseUintM, NumEnd.ok.injEq] at h
    subst h
    simp only [List.nil_append, parseUintM, dig_nat hd]
    rw [if_pos (by omega), if_neg (by omega), if_neg (by omega)]
    congr 1; omega
  | c :: r, acc, v, d, h, hv, hd, hM => by
    simp only [parseUintM] at h
    simp only [List.cons_append, parseUintM]
    split at h
    · rename_i h1
      rw [if_pos h1]
      split at h
      · cases h
      · rename_i h2
        rw [if_neg h2]
        split at h
        · cases h
        · rename_i h3
          rw [if_neg h3]
          exact parse_snoc M r _ v d h hv hd hM
    · cases h
theorem parse_dec (M : Nat) (hM : M ≤ 18446744073709551615) (u : Nat) (h : u ≤ M) : parseUintM M 0 (decDigits u) = .ok u := by
  induction u using Nat.strongRecOn with
  | _ u ih =>
    rw [decDigits]
    split
    · rename_i h1
      have := parse_snoc M [] 0 0 u rfl (by decide) h1 (by omega)
      simpa using this
    · rename_i h1
      have := parse_snoc M (decDigits (u / 10)) 0 (u / 10) (u % 10) (ih (u / 10) (by omega) (by omega)) (by omega) (Nat.mod_lt _ (by decide)) (by omega)
      rw [this]; congr 1; omega
theorem parse_itoa {x : Int} (hx : I64 x) : parseIntB 64 (itoa x) = .ok x := by
  unfold I64 at hx
  unfold itoa
  split
  · rename_i h
    have hp : parseUintB 64 (decDigits x.natAbs) = .ok x.natAbs := by
      unfold parseUintB; rw [if_neg (dec_ne _)]; exact parse_dec _ (by decide) _ (by omega)
    simp only [parseIntB]
    rw [if_pos (Or.inr (by decide)), hp]
    simp only
    rw [if_neg (by simp), if_neg (by omega)]
    simp only [NumEnd.ok.injEq]
    rw [if_pos (by decide)]; omega
  · rename_i h
    have hp : parseUintB 64 (decDigits x.toNat) = .ok x.toNat := by
      unfold parseUintB; rw [if_neg (dec_ne _)]; exact parse_dec _ (by decide) _ (by omega)
    cases hd : decDigits x.toNat with
    | nil => exact absurd hd (dec_ne _)
    | cons c r =>
      have hc := dec_all x.toNat c (by rw [hd]; exact List.mem_cons_self ..)
      rw [hd] at hp
      simp only [parseIntB]
      rw [if_neg (by omega), hp]
      simp only
      rw [if_neg (by rintro ⟨_, q⟩; omega), if_neg (by rintro ⟨q, _⟩; omega)]
      simp only [NumEnd.ok.injEq]
      rw [if_neg (by omega)]; omega
theorem itoa_all (x : Int) : ∀ b ∈ itoa x, b.toNat = 45 ∨ (48 ≤ b.toNat ∧ b.toNat ≤ 57) := by
  intro b hb
  unfold itoa at hb
  split at hb
  · rcases List.mem_cons.1 hb with rfl | hb
    · exact Or.inl (by decide)
    · exact Or.inr (dec_all _ _ hb)
  · exact Or.inr (dec_all _ _ hb)
theorem itoa_not (x : Int) {c : UInt8} (hc : c.toNat < 45) : c ∉ itoa x := fun h => by
  rcases itoa_all x c h with q | q <;> omega

/-! ### Parts between marks -/
/-- a, and further parts, a mark between each two. -/
def jn (c : UInt8) : List UInt8 → List (List UInt8) → List UInt8
  | a, [] => a
  | a, b :: r => a ++ c :: jn c b r
theorem jn_snoc (c : UInt8) : ∀ (a : List UInt8) (l : List (List UInt8)) (b : List UInt8), jn c a (l ++ [b]) = jn c a l ++ c :: b
  | a, [], b => rfl
  | a, x :: r, b => by show a ++ c :: jn c x (r ++ [b]) = (a ++ c :: jn c x r) ++ c :: b; rw [jn_snoc c x r b, List.append_assoc]; rfl
theorem index_none {c : UInt8} : ∀ {a : List UInt8}, c ∉ a → index a [c] = -1
  | [], _ => rfl
  | b :: l, h => by
    have h1 : c ≠ b := fun e => h (by rw [e]; exact List.mem_cons_self ..)
    have h2 : c ∉ l := fun e => h (List.mem_cons_of_mem _ e)
    rw [index]
    simp [List.isPrefixOf, h1, index_none h2]
theorem index_first_mark {c : UInt8} : ∀ {a : List UInt8} (r : List UInt8), c ∉ a → index (a ++ c :: r) [c] = (a.length : Int)
  | [], r, _ => by rw [List.nil_append, index]; simp [List.isPrefixOf]
  | b :: l, r, h => by
    have h1 : c ≠ b := fun e => h (by rw [e]; exact List.mem_cons_self ..)
    have h2 : c ∉ l := fun e => h (List.mem_cons_of_mem _ e)
    have ih := index_first_mark r h2
    rw [List.cons_append, index, ih]
    have hp : ([c] : List UInt8).isPrefixOf (b :: (l ++ c :: r)) = false := by simp [List.isPrefixOf, h1]
    rw [if_neg (by rw [hp]; simp), if_neg (by simp only [beq_iff_eq]; omega)]
    simp
theorem count_jn {c : UInt8} : ∀ {a : List UInt8} {l : List (List UInt8)}, c ∉ a → (∀ x ∈ l, c ∉ x) → count (jn c a l) [c] = l.length
  | a, [], h, _ => by rw [count_one]; exact List.count_eq_zero.2 h
  | a, b :: r, h, hl => by
    have ih := count_jn (a := b) (l := r) (hl b (List.mem_cons_self ..)) (fun x hx => hl x (List.mem_cons_of_mem _ hx))
    rw [count_one] at ih ⊢
    show (a ++ c :: jn c b r).count c = _
    rw [List.count_append, List.count_eq_zero.2 h, List.count_cons_self, ih, List.length_cons]; omega
theorem splitK_miss' {s sep : List UInt8} (h : index s sep = -1) : ∀ k, splitK sep 0 k s = [s]
  | 0 => rfl
  | k + 1 => by unfold splitK; rw [if_pos (by rw [h]; rfl)]
theorem splitK_jn {c : UInt8} : ∀ {a : List UInt8} {l : List (List UInt8)}, c ∉ a → (∀ x ∈ l, c ∉ x) → splitK [c] 0 l.length (jn c a l) = a :: l
  | a, [], h, _ => rfl
  | a, b :: r, h, hl => by
    have ih := splitK_jn (a := b) (l := r) (hl b (List.mem_cons_self ..)) (fun x hx => hl x (List.mem_cons_of_mem _ hx))
    have hi := index_first_mark (jn c b r) h
    show splitK [c] 0 (r.length + 1) (a ++ c :: jn c b r) = _
    unfold splitK
    rw [if_neg (by rw [hi]; simp only [beq_iff_eq]; omega), hi]
    have e1 : (a ++ c :: jn c b r).take (((a.length : Int)).toNat + 0) = a := by simp
    have e2 : (a ++ c :: jn c b r).drop (((a.length : Int)).toNat + [c].length) = jn c b r := by
      simp [List.drop_append]
    rw [e1, e2, ih]
/-- A text's parts. -/
def spB (s : ByteArray) (c : UInt8) : List ByteArray := splitB ⟨#[c]⟩ 0 (countB s ⟨#[c]⟩) s
def pcB (s : ByteArray) (c : UInt8) (i : Nat) : ByteArray := (spB s c).getD i ByteArray.empty
theorem spB_len (s : ByteArray) (c : UInt8) : (spB s c).length = countB s ⟨#[c]⟩ + 1 := splitB_all _ (by show 1 ≤ 1; exact Nat.le_refl _) 0 _ s rfl
theorem spB_jn {s : ByteArray} {c : UInt8} {a : List UInt8} {l : List (List UInt8)} (ha : c ∉ a) (hl : ∀ x ∈ l, c ∉ x) (h : s.data.toList = jn c a l) :
    countB s ⟨#[c]⟩ = l.length ∧ ∀ i, (a :: l)[i]? = some ((a :: l).getD i []) → (pcB s c i).data.toList = (a :: l).getD i [] := by
  have hc : countB s ⟨#[c]⟩ = l.length := by
    show count s.data.toList [c] = _
    rw [h]; exact count_jn ha hl
  refine ⟨hc, fun i hi => ?_⟩
  have hd := splitB_data ⟨#[c]⟩ 0 (countB s ⟨#[c]⟩) s
  rw [hc, h] at hd
  have hd2 : (spB s c).map (·.data.toList) = a :: l := by unfold spB; rw [hc]; exact hd.trans (splitK_jn ha hl)
  have hlt := (List.getElem?_eq_some_iff.1 hi).1
  have hlt2 : i < (spB s c).length := by
    have := congrArg List.length hd2
    rw [List.length_map] at this; omega
  unfold pcB
  rw [List.getD_eq_getElem?_getD, List.getElem?_eq_getElem hlt2, Option.getD_some]
  have := congrArg (fun q => q[i]?) hd2
  simp only [List.getElem?_map, List.getElem?_eq_getElem hlt2, Option.map_some] at this
  rw [hi] at this
  exact Option.some.inj this

/-! ### A configuration's text -/
/-- A row's name; how many numbers it has; where the first one stands. -/
def nmL : Nat → List UInt8
  | 0 => [113]
  | 1 => [108, 111, 111, 115, 101]
  | 2 => [114]
  | 3 => [114, 103, 114, 111, 117, 110, 100]
  | 4 => [115, 116, 97, 114, 116]
  | 5 => [102, 108, 111, 111, 114]
  | 6 => [99, 101, 105, 108]
  | 7 => [98, 111, 117, 110, 100]
  | 8 => [103, 97, 116, 101]
  | 9 => [116, 97, 98, 108, 101]
  | 10 => [115, 99, 97, 108, 101]
  | 11 => [114, 101, 115, 116]
  | 12 => [99, 108, 105, 112]
  | 13 => [104, 111, 108, 100]
  | 14 => [99, 111, 97, 115, 116]
  | 15 => [111, 117, 116]
  | 16 => [98, 97, 110, 100]
  | _ => [101, 110, 100]
def rnT : List Nat := [3, 3, 1, 1, 3, 3, 3, 3, 1, 3, 1, 1, 1, 1, 1, 1, 1, 0]
def roT : List Nat := [0, 3, 6, 7, 8, 11, 14, 17, 20, 21, 24, 25, 26, 27, 28, 29, 30, 31]
def rn (k : Nat) : Nat := rnT.getD k 0
def ro (k : Nat) : Nat := roT.getD k 31
/-- The first j numbers of row k, each behind a blank. -/
def lineL (c : Nat → Int) (k j : Nat) : List UInt8 := jn 32 (nmL k) ((List.range j).map fun i => itoa (c (ro k + i)))
theorem lineL_0 (c : Nat → Int) (k : Nat) : lineL c k 0 = nmL k := rfl
theorem lineL_succ (c : Nat → Int) (k j : Nat) : lineL c k (j + 1) = lineL c k j ++ 32 :: itoa (c (ro k + j)) := by
  unfold lineL; rw [List.range_succ, List.map_append]; exact jn_snoc _ _ _ _
def textL (c : Nat → Int) : Nat → List UInt8
  | 0 => []
  | k + 1 => textL c k ++ (lineL c k (rn k) ++ [10])
theorem fin_all {p : Nat → Prop} {n : Nat} (h : ∀ i : Fin n, p i.val) : ∀ i, i < n → p i := fun i hi => h ⟨i, hi⟩
theorem nmL_all : ∀ k, ∀ b ∈ nmL k, 97 ≤ b.toNat ∧ b.toNat ≤ 122 := by
  intro k
  rcases Nat.lt_or_ge k 18 with h | h
  · have := (show ∀ i : Fin 18, ∀ b ∈ nmL i.val, 97 ≤ b.toNat ∧ b.toNat ≤ 122 by decide) ⟨k, h⟩
    exact this
  · have e : nmL k = nmL 17 := by
      unfold nmL
      split <;> first | rfl | omega
    rw [e]; decide
theorem nmL_not (k : Nat) {c : UInt8} (hc : c.toNat < 97) : c ∉ nmL k := fun h => by have := nmL_all k c h; omega
theorem mem_jn {b c : UInt8} : ∀ {a : List UInt8} {l : List (List UInt8)}, b ∈ jn c a l → b ∈ a ∨ b = c ∨ ∃ x ∈ l, b ∈ x
  | a, [], h => Or.inl h
  | a, x :: r, h => by
    rcases List.mem_append.1 h with h | h
    · exact Or.inl h
    · rcases List.mem_cons.1 h with h | h
      · exact Or.inr (Or.inl h)
      · rcases mem_jn h with q | q | ⟨y, hy, q⟩
        · exact Or.inr (Or.inr ⟨x, List.mem_cons_self .., q⟩)
        · exact Or.inr (Or.inl q)
        · exact Or.inr (Or.inr ⟨y, List.mem_cons_of_mem _ hy, q⟩)
theorem line_not (c : Nat → Int) (k j : Nat) : (10 : UInt8) ∉ lineL c k j := fun h => by
  rcases mem_jn h with q | q | ⟨x, hx, q⟩
  · exact nmL_not k (by decide) q
  · exact absurd q (by decide)
  · obtain ⟨i, _, rfl⟩ := List.mem_map.1 hx
    exact itoa_not _ (by decide) q
/-- The text, in lines. -/
theorem text_jn (c : Nat → Int) : ∀ k, textL c (k + 1) = jn 10 (lineL c 0 (rn 0)) (((List.range k).map fun i => lineL c (i + 1) (rn (i + 1))) ++ [[]])
  | 0 => by
    show [] ++ (lineL c 0 (rn 0) ++ [10]) = _
    rw [List.nil_append]; rfl
  | k + 1 => by
    rw [textL, text_jn c k, List.range_succ, List.map_append, jn_snoc, jn_snoc]
    show _ = jn 10 _ (_ ++ [lineL c (k + 1) (rn (k + 1))]) ++ [10]
    rw [jn_snoc]
    simp
def lines (c : Nat → Int) : List (List UInt8) := ((List.range 17).map fun i => lineL c (i + 1) (rn (i + 1))) ++ [[]]
theorem text_18 (c : Nat → Int) : textL c 18 = jn 10 (lineL c 0 (rn 0)) (lines c) := text_jn c 17
theorem lines_not (c : Nat → Int) : ∀ x ∈ lines c, (10 : UInt8) ∉ x := by
  intro x hx
  rcases List.mem_append.1 hx with hx | hx
  · obtain ⟨i, _, rfl⟩ := List.mem_map.1 hx; exact line_not _ _ _
  · rw [List.mem_singleton.1 hx]; simp
theorem text_lines {s : ByteArray} {c : Nat → Int} (h : s.data.toList = textL c 18) : countB s ⟨#[10]⟩ = 18 ∧ ∀ i, i < 18 → (pcB s 10 i).data.toList = lineL c i (rn i) := by
  rw [text_18] at h
  obtain ⟨h1, h2⟩ := spB_jn (line_not _ _ _) (lines_not c) h
  refine ⟨h1, fun i hi => ?_⟩
  have e : (lineL c 0 (rn 0) :: lines c)[i]? = some (lineL c i (rn i)) := by
    cases i with
    | zero => rfl
    | succ i =>
      rw [List.getElem?_cons_succ]
      unfold lines
      rw [List.getElem?_append_left (by simp; omega), List.getElem?_map, List.getElem?_range (by omega)]; rfl
  have e2 : (lineL c 0 (rn 0) :: lines c).getD i [] = lineL c i (rn i) := by rw [List.getD_eq_getElem?_getD, e]; rfl
  have := h2 i (by rw [e, e2])
  rw [this, e2]
theorem line_words {s : ByteArray} {c : Nat → Int} {k : Nat} (h : s.data.toList = lineL c k (rn k)) : countB s ⟨#[32]⟩ = rn k ∧ ∀ j, j < rn k → (pcB s 32 (j + 1)).data.toList = itoa (c (ro k + j)) := by
  obtain ⟨h1, h2⟩ := spB_jn (nmL_not k (by decide)) (fun x hx => by obtain ⟨i, _, rfl⟩ := List.mem_map.1 hx; exact itoa_not _ (by decide)) h
  rw [List.length_map, List.length_range] at h1
  refine ⟨h1, fun j hj => ?_⟩
  have e : (nmL k :: ((List.range (rn k)).map fun i => itoa (c (ro k + i))))[j + 1]? = some (itoa (c (ro k + j))) := by
    rw [List.getElem?_cons_succ, List.getElem?_map, List.getElem?_range hj]; rfl
  have e2 : (nmL k :: ((List.range (rn k)).map fun i => itoa (c (ro k + i)))).getD (j + 1) [] = itoa (c (ro k + j)) := by rw [List.getD_eq_getElem?_getD, e]; rfl
  have := h2 (j + 1) (by rw [e, e2])
  rw [this, e2]
theorem row_fits {k j : Nat} (h : j < rn k) : k < 17 ∧ ro k + j < 31 := by
  rcases Nat.lt_or_ge k 18 with hk | hk
  · have := (show ∀ i : Fin 18, rn i.val = 0 ∨ (i.val < 17 ∧ ro i.val + rn i.val ≤ 31) by decide) ⟨k, hk⟩
    rcases this with q | q
    · rw [q] at h; omega
    · exact ⟨q.1, Nat.lt_of_lt_of_le (Nat.add_lt_add_left h _) q.2⟩
  · have : rn k = 0 := by unfold rn; rw [List.getD_eq_getElem?_getD, List.getElem?_eq_none (by show 18 ≤ k; exact hk)]; rfl
    rw [this] at h; omega
theorem row_next {k : Nat} (h : k < 17) : ro k + rn k = ro (k + 1) := (show ∀ i : Fin 17, ro i.val + rn i.val = ro (i.val + 1) by decide) ⟨k, h⟩
theorem row_last : ro 17 = 31 ∧ ro 18 = 31 ∧ ro 0 = 0 := by decide

/-! ### Lengths -/
theorem jn_len (c : UInt8) (m : Nat) : ∀ (a : List UInt8) (l : List (List UInt8)), (∀ x ∈ l, x.length ≤ m) → (jn c a l).length ≤ a.length + l.length * (m + 1)
  | a, [], _ => by simp [jn]
  | a, b :: r, h => by
    have ih := jn_len c m b r (fun x hx => h x (List.mem_cons_of_mem _ hx))
    have hb := h b (List.mem_cons_self ..)
    show (a ++ c :: jn c b r).length ≤ _
    rw [List.length_append, List.length_cons, List.length_cons]
    have : (r.length + 1) * (m + 1) = r.length * (m + 1) + (m + 1) := by rw [Nat.add_mul]; omega
    omega
theorem nmL_len (k : Nat) : (nmL k).length ≤ 7 := by
  rcases Nat.lt_or_ge k 18 with h | h
  · exact (show ∀ i : Fin 18, (nmL i.val).length ≤ 7 by decide) ⟨k, h⟩
  · have e : nmL k = nmL 17 := by
      unfold nmL
      split <;> first | rfl | omega
    rw [e]; decide
theorem rn_le (k : Nat) : rn k ≤ 3 := by
  rcases Nat.lt_or_ge k 18 with h | h
  · exact (show ∀ i : Fin 18, rn i.val ≤ 3 by decide) ⟨k, h⟩
  · unfold rn; rw [List.getD_eq_getElem?_getD, List.getElem?_eq_none (by show 18 ≤ k; exact h)]; decide
theorem line_len {c : Nat → Int} (hc : ∀ i, I64 (c i)) (k j : Nat) (hj : j ≤ 3) : (lineL c k j).length ≤ 73 := by
  have h1 := jn_len 32 21 (nmL k) ((List.range j).map fun i => itoa (c (ro k + i))) (fun x hx => by
    obtain ⟨i, _, rfl⟩ := List.mem_map.1 hx
    have := hc (ro k + i)
    unfold I64 at this
    exact itoa_length_le _ (by omega) (by omega))
  rw [List.length_map, List.length_range] at h1
  have h2 := nmL_len k
  have h3 : j * (21 + 1) ≤ 3 * 22 := Nat.mul_le_mul_right _ hj
  unfold lineL; omega
theorem text_len {c : Nat → Int} (hc : ∀ i, I64 (c i)) : ∀ k, (textL c k).length ≤ k * 74
  | 0 => by simp [textL]
  | k + 1 => by
    have ih := text_len hc k
    have h1 := line_len hc k (rn k) (rn_le k)
    rw [textL, List.length_append, List.length_append, List.length_singleton, Nat.add_mul]
    omega
end Go.Proofs.YtnmacidlgadmgaaDoor
