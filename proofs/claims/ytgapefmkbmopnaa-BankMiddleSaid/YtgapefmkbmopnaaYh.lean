/- Tellings, none of them; their cells laid in a row; the chapter's example. -/
import Derived.Test.YtgapefmkbmopnaaYc
import Derived.Test.YtgapefmkbmopnaaYe
import Derived.Test.YtgapefmkbmopnaaYg
namespace Go.Proofs.Ytgapefmkbmopnaa
open Go.RowKit
set_option linter.unusedSimpArgs false
set_option linter.unusedVariables false
def tcs (t : Tl) : Nat → List Value
  | 0 => []
  | n + 1 => tcs t n ++ tc t n
theorem tcs_length (t : Tl) (n : Nat) : (tcs t n).length = n * 9 := by
  induction n with
  | zero => rfl
  | succ n ih => show (tcs t n ++ tc t n).length = _; rw [List.length_append, ih, Nat.succ_mul]; rfl
theorem tcs_get (t : Tl) {n i j : Nat} (hi : i < n) (hj : j < 9) : (tcs t n)[i * 9 + j]? = (tc t i)[j]? := by
  induction n with
  | zero => omega
  | succ n ih =>
    show (tcs t n ++ tc t n)[i * 9 + j]? = _
    by_cases e : i = n
    · subst e; rw [List.getElem?_append_right (by rw [tcs_length]; omega), tcs_length]; congr 1; omega
    · rw [List.getElem?_append_left (by rw [tcs_length]; omega)]; exact ih (by omega)
theorem tells_tcs (t : Tl) (n : Nat) : Tells t (tcs t n) 0 n := fun i hi j hj => by rw [Nat.zero_add]; exact tcs_get t hi hj
theorem tells_news {t : Tl} {cs : List Value} {o n : Nat} (h : Tells t cs o n) : tcs t n = cellsFrom cs o (n * 9) := by
  unfold cellsFrom
  apply List.ext_getElem?
  intro k
  rw [List.getElem?_take, List.getElem?_drop]
  by_cases hk : k < n * 9
  · rw [if_pos hk]
    have e : k = k / 9 * 9 + k % 9 := by omega
    have := h (k / 9) (by omega) (k % 9) (by omega)
    rw [e, tcs_get t (by omega) (by omega), ← this]; congr 1; omega
  · rw [if_neg hk, List.getElem?_eq_none (by rw [tcs_length]; omega)]
theorem tcs_one (t : Tl) (n : Nat) : ∀ u ∈ tcs t n, u.oneCell' = true := by
  induction n with
  | zero => intro u hu; cases hu
  | succ n ih =>
    intro u hu
    rcases List.mem_append.1 (show u ∈ tcs t n ++ tc t n from hu) with h | h
    · exact ih u h
    · simp only [tc, List.mem_cons, List.not_mem_nil, or_false] at h
      rcases h with rfl | rfl | rfl | rfl | rfl | rfl | rfl | rfl | rfl <;> rfl
theorem ref22_Middle_z (t : Tl) (n b o c : Nat) (cs : List Value) (hn : n ≤ 60) (hT : Tells t cs o n) (w : World) (hb : b < w.heap.size) (hc : ∀ i v, cs[i]? = some v → w.cell? ⟨b, i, none⟩ = some v) :
    Calls Try.prog 6 #[.slice (some ⟨b, o, none⟩) (0 + n) c] w fun e w' => e = .returned (.tuple #[.int .i64 (mid t n).1, .bool (mid t n).2]) ∧ Below w.heap.size w w' := by
  rw [Nat.zero_add]; exact ref22_Middle t n b o c cs hn hT w hb hc
theorem ref22_Same_z (t : Tl) (n b o c d q f : Nat) (cs ds : List Value) (hn : n ≤ 60) (hT : Tells t cs o n) (hU : Tells t ds q n) (w : World) (hb : b < w.heap.size) (hc : ∀ i v, cs[i]? = some v → w.cell? ⟨b, i, none⟩ = some v) (hd : d < w.heap.size) (hc' : ∀ i v, ds[i]? = some v → w.cell? ⟨d, i, none⟩ = some v) :
    Calls Try.prog 7 #[.slice (some ⟨b, o, none⟩) n c, .slice (some ⟨d, q, none⟩) (0 + n) f] w fun e w' => e = .returned (.bool true) ∧ Below w.heap.size w w' := by
  rw [Nat.zero_add]; exact ref22_Same t n b o c d q f cs ds hn hT hU w hb hc hd hc'
def tEx : Tl := ⟨fun _ => 0, fun i => decide (i < 4), fun _ => false, fun _ => false, fun _ => false, fun _ => false, fun i => [5, 1, 9, 7].getD i 0, fun _ => 0, fun _ => 0⟩
theorem mid_ex : mid tEx 4 = (5, true) := mid_hit (i := 0) (by decide) (by decide)
theorem tells_ex : Tells tEx [.int .i64 0, .bool true, .bool false, .bool false, .bool false, .bool false, .int .i64 5, .int .i64 0, .int .i64 0, .int .i64 0, .bool true, .bool false, .bool false, .bool false, .bool false, .int .i64 1, .int .i64 0, .int .i64 0, .int .i64 0, .bool true, .bool false, .bool false, .bool false, .bool false, .int .i64 9, .int .i64 0, .int .i64 0, .int .i64 0, .bool true, .bool false, .bool false, .bool false, .bool false, .int .i64 7, .int .i64 0, .int .i64 0] 0 4 := tells_tcs tEx 4
set_option maxRecDepth 1000000 in
set_option maxHeartbeats 8000000 in
theorem ref22_Middle0 (A : Option Addr) (c : Nat)  (w : World)   : Calls Try.prog 6 #[.slice A 0 c] w (fun e w' => e = .returned (.tuple #[.int .i64 0, .bool false]) ∧ Below w.heap.size w w') := by
  exact (let B : Base := (⟨w, fun _ => False⟩ : Base); let R : Ending → World → Prop := (fun e w' => e = .returned (.tuple #[.int .i64 0, .bool false]) ∧ Below w.heap.size w w'); calls_of_planX (f := 6) (B := B) (R := R) (es := []) (c := Try.f6.body.getD .skip) (tmps := #[.slice A 0 c, undef, undef, undef, undef, undef, undef, undef, undef, undef, undef, undef, undef, undef, undef, undef, undef, undef, undef, undef, undef, undef, undef, undef, undef, undef, undef, undef, undef, undef, undef, undef, undef, undef, undef, undef, undef, undef, undef, undef, undef, undef, undef, undef, undef, undef, undef, undef, undef, undef, undef, undef, undef, undef, undef, undef, undef, undef, undef, undef, undef, undef, undef, undef, undef, undef, undef, undef, undef, undef, undef, undef, undef, undef, undef, undef, undef, undef, undef, undef, undef, undef, undef, undef, undef, undef, undef, undef, undef, undef, undef, undef, undef, undef, undef, undef, undef, undef, undef, undef, undef])
    (.s [.c, .c, .v, .v, .c, .c, .c, .v, .c, .c, .c, .c, .v, .c, .c, .c, .c, .c, .c, .v, .v, .v, .v, .c, .c, .c, .c, .c, .c, .v, .c, .c, .c, .c, .c, .c, .v, .v, .v, .v, .c, .c, .c, .c, .c, .v, .v, .c] (.ret []))
    (by kernel_rfl) (Sx.refl w _) ExX.nil Try.func6 (by kernel_rfl) (by kernel_rfl) (Eq.mp (by kernel_rfl) (aI trivial ((show LeafX B R [] [] [] [] (.tuple #[.int .i64 0, .bool false]) from by
        exact fun W hS => ⟨rfl, hS.bl⟩)))))
set_option maxRecDepth 1000000 in
set_option maxHeartbeats 8000000 in
theorem bank_Middle0 (A : Option Addr) (c : Nat)  (w : World)   : Calls Try.prog 5 #[.slice A 0 c] w (fun e w' => e = .returned (.tuple #[.int .i64 0, .bool false]) ∧ Below w.heap.size w w') := by
  exact (let B : Base := (⟨w, fun _ => False⟩ : Base); let R : Ending → World → Prop := (fun e w' => e = .returned (.tuple #[.int .i64 0, .bool false]) ∧ Below w.heap.size w w'); calls_of_planX (f := 5) (B := B) (R := R) (es := []) (c := Try.f5.body.getD .skip) (tmps := #[.slice A 0 c, undef, undef, undef, undef, undef, undef, undef, undef, undef, undef, undef, undef, undef, undef, undef, undef, undef, undef, undef, undef, undef, undef, undef, undef, undef, undef, undef, undef, undef, undef, undef, undef])
    (.s [.c, .c, .v, .v, .c, .c, .c, .v, .c, .c, .c, .c, .v, .v, .v, .c, .c, .c, .c, .c, .v, .c, .c, .c, .c, .c, .c, .c, .v, .v, .v, .c, .c, .c, .c, .v, .v, .c] (.ret []))
    (by kernel_rfl) (Sx.refl w _) ExX.nil Try.func5 (by kernel_rfl) (by kernel_rfl) (Eq.mp (by kernel_rfl) (aI trivial ((show LeafX B R [] [] [] [] (.tuple #[.int .i64 0, .bool false]) from by
        exact fun W hS => ⟨rfl, hS.bl⟩)))))
set_option maxRecDepth 1000000 in
set_option maxHeartbeats 8000000 in
theorem ref22_Same0 (A : Option Addr) (c : Nat) (A' : Option Addr) (c' : Nat)  (w : World)   : Calls Try.prog 7 #[.slice A 0 c, .slice A' 0 c'] w (fun e w' => e = .returned (.bool true) ∧ Below w.heap.size w w') := by
  exact (let B : Base := (⟨w, fun _ => False⟩ : Base); let R : Ending → World → Prop := (fun e w' => e = .returned (.bool true) ∧ Below w.heap.size w w'); calls_of_planX (f := 7) (B := B) (R := R) (es := []) (c := Try.f7.body.getD .skip) (tmps := #[.slice A 0 c, .slice A' 0 c', undef, undef, undef, undef, undef, undef, undef, undef, undef, undef, undef, undef, undef, undef, undef, undef, undef, undef, undef, undef, undef, undef, undef, undef])
    (.s [.c, .c, .v, .c, .c, .c, .c, .v, .v, .v, .v, .v, .c, .c, .c, .c, .c, .c, .v, .c, .c, .c, .c, .c, .c, .v, .v, .v, .v, .c, .c, .c, .c, .c, .v, .c] (.ret []))
    (by kernel_rfl) (Sx.refl w _) ExX.nil Try.func7 (by kernel_rfl) (by kernel_rfl) (Eq.mp (by kernel_rfl) (aI trivial ((show LeafX B R [] [] [] [] (.bool true) from by
        exact fun W hS => ⟨rfl, hS.bl⟩)))))
theorem bank_ex (b : Nat) (w : World) (hb : b < w.heap.size) (hc : ∀ (i : Nat) (v : Value), ([.int .i64 0, .bool true, .bool false, .bool false, .bool false, .bool false, .int .i64 5, .int .i64 0, .int .i64 0, .int .i64 0, .bool true, .bool false, .bool false, .bool false, .bool false, .int .i64 1, .int .i64 0, .int .i64 0, .int .i64 0, .bool true, .bool false, .bool false, .bool false, .bool false, .int .i64 9, .int .i64 0, .int .i64 0, .int .i64 0, .bool true, .bool false, .bool false, .bool false, .bool false, .int .i64 7, .int .i64 0, .int .i64 0] : List Value)[i]? = some v → w.cell? ⟨b, i, none⟩ = some v) :
    Calls Try.prog 5 #[.slice (some ⟨b, 0, none⟩) 4 4] w fun e w' => e = .returned (.tuple #[.int .i64 5, .bool true]) ∧ Below w.heap.size w w' := by
  have h := bank_Middle tEx 4 b 0 4 _ (by decide) tells_ex w hb hc
  rw [mid_ex] at h
  exact h
set_option maxRecDepth 1000000 in
set_option maxHeartbeats 8000000 in
theorem law22_fixed   (w : World)   : Calls Try.prog 4 #[] w (fun e w' => e = .returned (.bool true) ∧ Below w.heap.size w w') := by
  exact (let B : Base := (⟨w, fun _ => False⟩ : Base); let R : Ending → World → Prop := (fun e w' => e = .returned (.bool true) ∧ Below w.heap.size w w'); calls_of_planX (f := 4) (B := B) (R := R) (es := []) (c := Try.f4.body.getD .skip) (tmps := #[undef, undef, undef, undef, undef, undef, undef, undef, undef, undef, undef, undef, undef, undef, undef, undef, undef])
    (.s [.c, .c, .v, .c, .c, .c, .v, .v, .v, .v] (.new (fun r1 => .s [.call (.tuple #[.int .i64 5, .bool true]), .v, .v, .v, .v, .v, .c, .c, .c, .v, .v, .v, .v, .v, .v, .c] (.ret []))))
    (by kernel_rfl) (Sx.refl w _) ExX.nil Try.func4 (by kernel_rfl) (by kernel_rfl) (Eq.mp (by kernel_rfl) (fun (r1 : Nat) => let bs2 : Blks := [(r1, [.int .i64 0, .bool true, .bool false, .bool false, .bool false, .bool false, .int .i64 5, .int .i64 0, .int .i64 0, .int .i64 0, .bool true, .bool false, .bool false, .bool false, .bool false, .int .i64 1, .int .i64 0, .int .i64 0, .int .i64 0, .bool true, .bool false, .bool false, .bool false, .bool false, .int .i64 9, .int .i64 0, .int .i64 0, .int .i64 0, .bool true, .bool false, .bool false, .bool false, .bool false, .int .i64 7, .int .i64 0, .int .i64 0])]; let rs3 : Rws := [(0, 29, 36)]; aI (cv B bs2 [] rs3 [] ((fun W hS => bank_ex r1 W (hS.lt (List.mem_of_getElem? (i := 0) rfl)) (fun i v h => hS.cell 0 i rfl h)))) (aI trivial ((show LeafX B R bs2 [] rs3 [] (.bool true) from by
        exact fun W hS => ⟨rfl, hS.bl⟩))))))

end Go.Proofs.Ytgapefmkbmopnaa
