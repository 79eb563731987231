/- Layer 14: Get of a Put's text; the chapter's example (law14.fixed), plainly. -/
import Derived.Test.YtnmacidlgadmgaaDoorPn
namespace Go.Proofs.YtnmacidlgadmgaaDoor
open Go.RowKit
set_option linter.unusedSimpArgs false
set_option linter.unusedVariables false
theorem all_fields : ∀ i : Fin 31, ∃ k : Fin 18, ∃ j : Fin 3, j.val < rn k.val ∧ ro k.val + j.val = i.val := by decide
theorem itoa_inj {x y : Int} (hx : I64 x) (hy : I64 y) (h : Lib.itoa x = Lib.itoa y) : x = y := by
  have a := parse_itoa hx
  rw [h, parse_itoa hy] at a
  exact (Lib.NumEnd.ok.inj a).symm
theorem text_inj {c d : Nat → Int} (hc : ∀ i, I64 (c i)) (hd : ∀ i, I64 (d i)) (h : textL c 18 = textL d 18) : ∀ m, m < 31 → c m = d m := by
  intro m hm
  obtain ⟨k, j, hj, e⟩ := all_fields ⟨m, hm⟩
  have e : ro k.val + j.val = m := e
  subst e
  have h1 : (bz (textL c 18)).data.toList = textL c 18 := by simp [bz]
  have h2 : (bz (textL c 18)).data.toList = textL d 18 := h1.trans h
  have a := (line_words ((text_lines h1).2 k.val k.isLt)).2 j.val hj
  have b := (line_words ((text_lines h2).2 k.val k.isLt)).2 j.val hj
  exact itoa_inj (hc _) (hd _) (a.symm.trans b)
theorem cV_same {c d : Nat → Int} (h : ∀ m, m < 31 → c m = d m) : cV c = cV d := by
  unfold cV cW
  rw [List.map_congr_left fun i hi => by rw [h i (List.mem_range.1 hi)]]
theorem get_put {c : Nat → Int} (hc : ∀ i, I64 (c i)) {s : ByteArray} (he : s = bz (textL c 18)) (w : World) (hP : PK w) : Calls Tryd.prog 6 #[.string s] w fun e w' => e = .returned (.tuple #[cV c, .int .i64 0]) ∧ Below w.heap.size w w' := by
  have h1 : s.data.toList = textL c 18 := by subst he; simp [bz]
  have hs : s.size < 4294967281 := by
    subst he; rw [bz_size]; have := text_len hc 18; omega
  refine (parse_Get s w hP hs).mono ?_
  rintro e w' ⟨d, n, rfl, hG, hb⟩
  refine ⟨?_, hb⟩
  rcases hG with ⟨rfl, hd, ht⟩ | ⟨_, _, hN⟩
  · rw [cV_same (text_inj hd hc (ht.symm.trans h1))]
  · exact absurd h1 (hN c hc)
theorem has_mid (a b m : List UInt8) : Lib.contains (a ++ (m ++ b)) m = true := by
  unfold Lib.contains
  rcases Lib.index_spec (a ++ (m ++ b)) m with ⟨_, h⟩ | ⟨i, h, _⟩
  · have := h a.length (by rw [List.length_append]; omega)
    unfold Lib.occAt at this
    rw [List.drop_left] at this
    have q : m.isPrefixOf (m ++ b) = true := List.isPrefixOf_iff_prefix.2 (List.prefix_append _ _)
    rw [q] at this; cases this
  · rw [h]; exact decide_eq_true (Int.natCast_nonneg i)
theorem has_end (a m : List UInt8) : Lib.hasSuffix (a ++ m) m = true := List.isSuffixOf_iff_suffix.2 (List.suffix_append _ _)
theorem text_more (c : Nat → Int) (k : Nat) : ∀ n, ∃ r, textL c (k + n) = textL c k ++ r
  | 0 => ⟨[], by simp⟩
  | n + 1 => by
    obtain ⟨r, h⟩ := text_more c k n
    exact ⟨r ++ (lineL c (k + n) (rn (k + n)) ++ [10]), by rw [← Nat.add_assoc, textL, h, List.append_assoc]⟩
theorem fix_gate {c : Nat → Int} (h : c 20 = 9) : Lib.contains (bz (textL c 18)).data.toList (⟨#[10, 103, 97, 116, 101, 32, 57, 10]⟩ : ByteArray).data.toList = true := by
  obtain ⟨r, hr⟩ := text_more c 9 9
  have e1 : (bz (textL c 18)).data.toList = textL c 18 := by simp [bz]
  have e9 : Lib.itoa (9 : Int) = [57] := by
    unfold Lib.itoa; rw [if_neg (by decide)]; exact Lib.decDigits_one (by decide)
  have e2 : lineL c 8 1 = [103, 97, 116, 101] ++ 32 :: [57] := by
    rw [lineL_succ, lineL_0, show ro 8 + 0 = 20 from rfl, h, e9]; rfl
  have e3 : textL c 18 = (textL c 7 ++ lineL c 7 (rn 7)) ++ ((⟨#[10, 103, 97, 116, 101, 32, 57, 10]⟩ : ByteArray).data.toList ++ r) := by
    rw [show (18 : Nat) = 9 + 9 from rfl, hr, textL, textL, show rn 8 = 1 from rfl, e2]
    simp
  rw [e1, e3]; exact has_mid _ _ _
theorem fix_end (c : Nat → Int) : Lib.hasSuffix (bz (textL c 18)).data.toList (⟨#[10, 101, 110, 100, 10]⟩ : ByteArray).data.toList = true := by
  have e1 : (bz (textL c 18)).data.toList = textL c 18 := by simp [bz]
  have e3 : textL c 18 = (textL c 16 ++ lineL c 16 (rn 16)) ++ (⟨#[10, 101, 110, 100, 10]⟩ : ByteArray).data.toList := by
    rw [textL, textL, show lineL c 17 (rn 17) = [101, 110, 100] from rfl]
    simp
  rw [e1, e3]; exact has_end _ _
def dfL : List Int := [1024, 65536, 256, 16384, 4194304, 4096, 274877906944, 4398046511104, 4398046511104, 1099511627776, 68719476736, 256, 256, 256, 1125899906842624, 281474976710656, 17592186044416, 18014398509481984, 562949953421312, 8796093022208, 9, 34359738368, 17179869184, -1073741824, 536870912, 2048, 32768, 32, 64, 1280, 240]
def dF (i : Nat) : Int := dfL.getD i 0
theorem dF_I64 : ∀ i, I64 (dF i) := by
  intro i
  rcases Nat.lt_or_ge i 31 with h | h
  · exact (show ∀ j : Fin 31, -9223372036854775808 ≤ dF j.val ∧ dF j.val ≤ 9223372036854775807 by decide) ⟨i, h⟩
  · have : dF i = 0 := by unfold dF; rw [List.getD_eq_getElem?_getD, List.getElem?_eq_none (by show 31 ≤ i; exact h)]; rfl
    rw [this]; unfold I64; omega
set_option maxRecDepth 1000000 in
set_option maxHeartbeats 8000000 in
theorem def_conf   (w : World)   : Calls Tryd.prog 18 #[] w (fun e w' => e = .returned (cV dF) ∧ Below w.heap.size w w') := by
  exact (let B : Base := (⟨w, fun _ => False⟩ : Base); let R : Ending → World → Prop := (fun e w' => e = .returned (cV dF) ∧ Below w.heap.size w w'); calls_of_planX (f := 18) (B := B) (R := R) (es := []) (c := Tryd.f18.body.getD .skip) (tmps := (tm0 [vN] 8))
    (.s [.c, .c] (.new (fun r1 => .s [.c, .c, .c, .v, .v, .v, .v, .v, .v, .v, .v, .put 0] (.s [.c] (.ret [0])))))
    (by kernel_rfl) (Sx.refl w _) ExX.nil Tryd.func18 (by kernel_rfl) (by kernel_rfl) (@Eq.mp _ _ (by kernel_rfl) (fun (r1 : Nat) => let rs3 : Rws := [(0, 25, 31)]; aI (show (r1 = r1 ∧ (r1 = r1 ∧ (r1 = r1 ∧ (r1 = r1 ∧ (r1 = r1 ∧ (r1 = r1 ∧ (r1 = r1 ∧ (r1 = r1 ∧ (r1 = r1 ∧ (r1 = r1 ∧ (r1 = r1 ∧ (r1 = r1 ∧ (r1 = r1 ∧ (r1 = r1 ∧ (r1 = r1 ∧ (r1 = r1 ∧ (r1 = r1 ∧ (r1 = r1 ∧ (r1 = r1 ∧ (r1 = r1 ∧ (r1 = r1 ∧ (r1 = r1 ∧ (r1 = r1 ∧ (r1 = r1 ∧ (r1 = r1 ∧ (r1 = r1 ∧ (r1 = r1 ∧ (r1 = r1 ∧ (r1 = r1 ∧ (r1 = r1 ∧ (r1 = r1 ∧ (True)))))))))))))))))))))))))))))))) from ⟨rfl, rfl, rfl, rfl, rfl, rfl, rfl, rfl, rfl, rfl, rfl, rfl, rfl, rfl, rfl, rfl, rfl, rfl, rfl, rfl, rfl, rfl, rfl, rfl, rfl, rfl, rfl, rfl, rfl, rfl, rfl, trivial⟩) (aI trivial (let e5 : Nat × List Value := (r1, [vI 1024, vI 65536, vI 256, vI 16384, vI 4194304, vI 4096, vI 274877906944, vI 4398046511104, vI 4398046511104, vI 1099511627776, vI 68719476736, vI 256, vI 256, vI 256, vI 1125899906842624, vI 281474976710656, vI 17592186044416, vI 18014398509481984, vI 562949953421312, vI 8796093022208, vI 9, vI 34359738368, vI 17179869184, vI (-1073741824), vI 536870912, vI 2048, vI 32768, vI 32, vI 64, vI 1280, vI 240]); let bs4 : Blks := [e5]; aI (pE1 r1) ((show LeafX B R bs4 [] rs3 [] (.agg #[vI 1024, vI 65536, vI 256, vI 16384, vI 4194304, vI 4096, vI 274877906944, vI 4398046511104, vI 4398046511104, vI 1099511627776, vI 68719476736, vI 256, vI 256, vI 256, vI 1125899906842624, vI 281474976710656, vI 17592186044416, vI 18014398509481984, vI 562949953421312, vI 8796093022208, vI 9, vI 34359738368, vI 17179869184, vI (-1073741824), vI 536870912, vI 2048, vI 32768, vI 32, vI 64, vI 1280, vI 240]) from by
        exact fun W hS => ⟨congrArg Ending.returned (by kernel_rfl), hS.bl⟩)))))))

end Go.Proofs.YtnmacidlgadmgaaDoor
