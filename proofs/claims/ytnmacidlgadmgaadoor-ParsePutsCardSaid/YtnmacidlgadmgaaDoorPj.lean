/- Layer 14 (parse): what Get reads, plainly; both ends of its deferred function. -/
import Derived.Test.YtnmacidlgadmgaaDoorPi
namespace Go.Proofs.YtnmacidlgadmgaaDoor
open Go.RowKit
set_option linter.unusedSimpArgs false
set_option linter.unusedVariables false
/-! ### Plain -/
def nW (s : ByteArray) (c : UInt8) : Nat := Lib.countB s ⟨#[c]⟩ + 1
def rS (k : Nat) : Nat := rn k + 1
/-- No configuration has this text. -/
def NoC (s : ByteArray) : Prop := ∀ c : Nat → Int, (∀ i, I64 (c i)) → s.data.toList ≠ textL c 18
/-- The numbers ahead of place n are those of every configuration that has this text. -/
def SoFar (s : ByteArray) (x : Nat → Int) (n : Nat) : Prop := (∀ i, I64 (x i)) ∧ ∀ c : Nat → Int, (∀ i, I64 (c i)) → s.data.toList = textL c 18 → ∀ m, m < n → x m = c m
def upF (x : Nat → Int) (n : Nat) (v : Int) : Nat → Int := fun i => if i = n then v else x i
/-- What Get hands back. -/
def GetV (s : ByteArray) (c : Nat → Int) (n : Int) : Prop := (n = 0 ∧ (∀ i, I64 (c i)) ∧ s.data.toList = textL c 18) ∨ (c = zF ∧ n = 6 ∧ NoC s)
theorem so_0 (s : ByteArray) : SoFar s zF (ro 0 + 0) := ⟨fun _ => by unfold I64 zF; omega, fun _ _ _ m hm => absurd hm (by rw [row_last.2.2]; exact Nat.not_lt_zero m)⟩
theorem no_lines {s : ByteArray} (h : ¬ ((nW s 10 : Nat) : Int) = 19) : NoC s := fun c _ e => h (by unfold nW; rw [(text_lines e).1]; rfl)
theorem no_words {s : ByteArray} {k : Nat} (hk : k < 18) (h : ¬ ((nW (pcB s 10 k) 32 : Nat) : Int) = ((rS k : Nat) : Int)) : NoC s := fun c _ e => h (by unfold nW rS; rw [(line_words ((text_lines e).2 k hk)).1])
theorem I64_ok {s : ByteArray} {x : Int} (h : Lib.parseIntB 64 s.data.toList = .ok x) : I64 x := by
  unfold Lib.parseIntB at h
  unfold I64
  cases e : s.data.toList with
  | nil => rw [e] at h; cases h
  | cons a r =>
    rw [e] at h
    simp only at h
    generalize Lib.parseUintB 64 _ = q at h
    cases q with
    | ok u =>
      simp only at h
      split at h
      · cases h
      · split at h
        · cases h
        · rename_i h1 h2
          have hx := Lib.NumEnd.ok.inj h
          subst hx
          split
          · rename_i hn
            have : u ≤ 2 ^ 63 := by have := h2; simp only [hn, true_and, Nat.not_lt] at this; exact this
            omega
          · rename_i hn
            have : u < 2 ^ 63 := by have := h1; simp only [hn, not_false_eq_true, true_and, Nat.not_le] at this; exact this
            omega
    | _ => cases h
theorem vl_I64 {s : ByteArray} (h : okS s = true) : I64 (vlS s) := by
  unfold okS at h
  unfold vlS
  cases q : Lib.parseIntB 64 s.data.toList with
  | ok v => exact I64_ok q
  | _ => rw [q] at h; cases h
theorem no_num {s : ByteArray} {k j : Nat} (hj : j < rn k) (h : okS (pcB (pcB s 10 k) 32 (j + 1)) = false) : NoC s := fun c hc e => by
  have hk := (row_fits hj).1
  have := (okS_of (hc (ro k + j)) ((line_words ((text_lines e).2 k (by omega))).2 j hj)).1
  rw [h] at this; cases this
theorem so_num {s : ByteArray} {x : Nat → Int} {k j : Nat} {q : Nat → Nat} (hj : j < rn k) (hs : SoFar s x (ro k + j)) (h : okS (pcB (pcB s 10 k) 32 (j + 1)) = true) :
    SoFar s (upF x (ro k + j) (psV (pcB (pcB s 10 k) 32 (j + 1)) q)) (ro k + (j + 1)) := by
  have hk := (row_fits hj).1
  have hp : psV (pcB (pcB s 10 k) 32 (j + 1)) q = vlS (pcB (pcB s 10 k) 32 (j + 1)) := by unfold psV; rw [h]; rfl
  rw [hp]
  refine ⟨fun i => ?_, fun c hc e m hm => ?_⟩
  · unfold upF; split
    · exact vl_I64 h
    · exact hs.1 i
  · unfold upF; split
    · rename_i hi; subst hi
      exact (okS_of (hc _) ((line_words ((text_lines e).2 k (by omega))).2 j hj)).2
    · exact hs.2 c hc e m (by omega)
theorem so_row {s : ByteArray} {x : Nat → Int} {k j : Nat} (hk : k < 18) (hj : j = rn k) (hs : SoFar s x (ro k + j)) : SoFar s x (ro (k + 1) + 0) := by
  subst hj
  rcases Nat.lt_or_ge k 17 with h | h
  · rw [← row_next h]; exact hs
  · obtain rfl : k = 17 := by omega
    exact hs
theorem text_same {x c : Nat → Int} (h : ∀ m, m < 31 → x m = c m) : ∀ k, k ≤ 18 → textL x k = textL c k
  | 0, _ => rfl
  | k + 1, hk => by
    have e : lineL x k (rn k) = lineL c k (rn k) := by
      unfold lineL
      congr 1
      refine List.map_congr_left fun i hi => ?_
      rw [h _ (row_fits (List.mem_range.1 hi)).2]
    rw [textL, textL, text_same h k (by omega), e]
theorem no_text {s : ByteArray} {x : Nat → Int} {k : Nat} (hk : k = 18) (hs : SoFar s x (ro k + 0)) (h : ¬ textL x 18 = s.data.toList) : NoC s := fun c hc e =>
  h ((text_same (fun m hm => hs.2 c hc e m (by subst hk; exact hm)) 18 (Nat.le_refl _)).trans e.symm)
theorem ext_le (s : ByteArray) (i j : Nat) : (s.extract i j).size ≤ s.size := by rw [ByteArray.size_extract]; omega
theorem split_le (sep : ByteArray) : ∀ (k : Nat) (s x : ByteArray), x ∈ Lib.splitB sep 0 k s → x.size ≤ s.size
  | 0, s, x, h => by obtain rfl : x = s := by simpa [Lib.splitB] using h
                     exact Nat.le_refl _
  | k + 1, s, x, h => by
    unfold Lib.splitB at h
    split at h
    · obtain rfl : x = s := by simpa using h
      exact Nat.le_refl _
    · rcases List.mem_cons.1 h with rfl | h
      · exact ext_le _ _ _
      · exact Nat.le_trans (split_le sep k _ x h) (ext_le _ _ _)
theorem pc_le (s : ByteArray) (c : UInt8) (i : Nat) : (pcB s c i).size ≤ s.size := by
  unfold pcB spB
  rw [List.getD_eq_getElem?_getD]
  cases e : (Lib.splitB ⟨#[c]⟩ 0 (Lib.countB s ⟨#[c]⟩) s)[i]? with
  | none => exact Nat.zero_le _
  | some x => exact split_le _ _ _ x (List.mem_of_getElem? e)
theorem lh {s : ByteArray} (hs : s.size < 4294967281) (c : UInt8) (i : Nat) : (pcB s c i).size < 4294967281 := Nat.lt_of_le_of_lt (pc_le s c i) hs
theorem ixp1 {s : ByteArray} {k : Nat} (h : k < 18) (H : nW s 10 = 19) : k < nW s 10 := by omega
theorem ixp2 {s : ByteArray} {k j : Nat} (h : j < rn k) (H : nW (pcB s 10 k) 32 = rS k) : j + 1 < nW (pcB s 10 k) 32 := by unfold rS at H; omega
theorem txt_eq {x : List UInt8} {s : ByteArray} (h : ((⟨x.toArray⟩ : ByteArray).toList == s.toList) = true) : s.data.toList = x := by
  have := eq_of_beq h
  rw [ByteArray.toList_eq, ByteArray.toList_eq] at this
  exact this.symm
theorem txt_ne {x : List UInt8} {s : ByteArray} (h : ((⟨x.toArray⟩ : ByteArray).toList == s.toList) = false) : ¬ x = s.data.toList := fun e => by
  have : (⟨x.toArray⟩ : ByteArray) = s := ByteArray.ext (by rw [e])
  rw [this, beq_self_eq_true] at h; cases h
/-! ### Operations at letters -/
theorem ix_str (g n k : Nat) (h : k < n) : FactV Tryd.prog (do pure (.value (← Instr.indexAt 55 (.slice (some ⟨g, 0, none⟩) n n) (.int .i64 (k : Int))))) (.pointer (some ⟨g, k, none⟩)) := by
  intro W
  have hu : Tryd.prog.underlying 55 = some (.slice 9) := by kernel_rfl
  simp [Instr.indexAt, run_underlying hu, asIntOf, h, Addr.add_lit]
theorem ld_str (es sb : Blks) {g k : Nat} {s : ByteArray} {c : UInt8} (hm : (g, wdL s c) ∈ sb ∨ (g, wdL s c) ∈ es) (hk : k < nW s c) : LdX Tryd.prog es sb (do pure (.value (← Instr.loadAt 9 (.pointer (some ⟨g, k, none⟩))))) (.string (pcB s c k)) := by
  intro W hW
  have := ld1 (P := Tryd.prog) (ty := 9) (by kernel_rfl) (by kernel_rfl) (wdL_at hk) (hm.elim (fun h => hW.1 _ h) (fun h => hW.2 _ h))
  simp [this]
theorem put_runI {W : World} {b o : Nat} {u : Value} {z : Int} (h : W.cell? ⟨b, o, none⟩ = some u) (hf : W.frozen? ⟨b, o, none⟩ = false) : (do Instr.storeAt 2 (.pointer (some ⟨b, o, none⟩)) (.int .i64 z); pure .skip : Sem Next).run Tryd.prog W = .ok .skip (W.setCell ⟨b, o, none⟩ (.int .i64 z)) := by
  have hi : (Tryd.prog.info? 2).map (·.size) = some 1 := by kernel_rfl
  simp [Instr.storeAt, Instr.sureAddr, storeVar, go_sem, h, hf, hi]
theorem cW_set (x : Nat → Int) {n : Nat} (h : n < 31) (v : Int) : cW (upF x n v) = (cW x).set n (.int .i64 v) := by
  apply List.ext_getElem?
  intro i
  have hl : (cW x).length = 31 := by unfold cW; rw [List.length_map, List.length_range]
  rw [List.getElem?_set]
  rcases Nat.lt_or_ge i 31 with hi | hi
  · rw [cW_at _ hi, cW_at _ hi]
    unfold upF
    by_cases e : n = i
    · subst e; rw [if_pos rfl, if_pos rfl, if_pos (by omega)]
    · rw [if_neg e, if_neg (fun q => e q.symm)]
  · rw [List.getElem?_eq_none (by unfold cW; rw [List.length_map, List.length_range]; exact hi), if_neg (by omega), List.getElem?_eq_none (by omega)]
theorem put_cf {B : Base} {bs : Blks} {rs : Rws} {os : Lps} {b n : Nat} {x : Nat → Int} {v : Int} (j : Nat) (hj : bs[j]? = some (b, cW x)) (hn : n < 31) : PutX Tryd.prog B bs [] rs os (do Instr.storeAt 2 (.pointer (some ⟨b, n, none⟩)) (.int .i64 v); pure .skip) (bs.set j (b, cW (upF x n v))) := by
  intro W hS
  have hl : (cW x).length = 31 := by unfold cW; rw [List.length_map, List.length_range]
  obtain ⟨u, us, e⟩ : ∃ u us, cW x = u :: us := by
    cases q : cW x
    · rw [q] at hl; cases hl
    · exact ⟨_, _, rfl⟩
  have hm := List.mem_of_getElem? hj
  obtain ⟨_, _, hfz, hcs⟩ := hS.blk _ hm
  have hu := hcs n _ (cW_at x hn)
  refine ⟨W.setCell ⟨b, n, none⟩ (.int .i64 v), put_runI hu (hfz _), (belX_set W b _ _).mono (fun q _ e => Or.inl ⟨_, hm, e.symm⟩), ?_⟩
  have es : cW (upF x n v) = (u :: us).set n (.int .i64 v) := by rw [← e]; exact cW_set x hn v
  rw [es]
  exact hS.set j n (by rw [hj, e]) (by rw [← e, hl]; exact hn) (Or.inl rfl) (.int .i64 v)
/-! ### Both ends -/
def RG (s : ByteArray) (w : World) : Ending → World → Prop := fun e w' => ∃ c n, e = .returned (.tuple #[cV c, .int .i64 n]) ∧ GetV s c n ∧ Below w.heap.size w w'
def GE (s : ByteArray) (w : World) (a b : Nat) : FrameMode → List Nat → Array Value → World → Prop := DoorEnd Tryd.prog ⟨w, fun _ => False⟩ Tryd.f6 14 #[.pointer (some ⟨a, 0, none⟩), .pointer (some ⟨b, 0, none⟩)] (RG s w)
section
variable {w W : World} {a b : Nat} {x : Nat → Int} {s : ByteArray} {ds : List Nat} {tmps : Array Value} {os : Lps}
theorem res_get {y : Nat → Int} {n : Int} (h2 : tmps.getD 2 undef = .pointer (some ⟨a, 0, none⟩)) (h3 : tmps.getD 3 undef = .pointer (some ⟨b, 0, none⟩)) :
    ∃ q, resV Tryd.prog [(a, cW y), (b, [.int .i64 n])] tmps Tryd.f6.results.toList [0, 1] True = some ([cV y, .int .i64 n], q) ∧ q := by
  have hr : Tryd.f6.results.toList = [.cell 2 25, .cell 3 27] := by kernel_rfl
  rw [hr]
  simp only [resV, List.getElem?_cons_zero, List.getElem?_cons_succ, h2, h3]
  have e1 : loadW Tryd.prog a (cW y) 25 (.pointer (some ⟨a, 0, none⟩)) = some (cV y, a = a) := by kernel_rfl
  have e2 : loadW Tryd.prog b [.int .i64 n] 27 (.pointer (some ⟨b, 0, none⟩)) = some (.int .i64 n, b = b) := by kernel_rfl
  rw [e1, e2]
  exact ⟨_, rfl, by simp⟩
theorem end_none (hS : Sx ⟨w, fun _ => False⟩ W [(a, cW x), (b, [.int .i64 0])] [] [] os) (hM : Mk ⟨w, fun _ => False⟩ W ds) (h2 : tmps.getD 2 undef = .pointer (some ⟨a, 0, none⟩)) (h3 : tmps.getD 3 undef = .pointer (some ⟨b, 0, none⟩)) (hG : GetV s x 0) : GE s w a b .returning ds tmps W := by
  refine (get1_none a b x 0 W (hS.hand (ks := [0, 1]) (rs0 := []) (os0 := []) rfl rfl (by decide) (fun _ h => nomatch h) (List.nil_sublist _))).mono fun e' u' w2 h => ?_
  let L := lift_calls hS (ks := [0, 1]) (idx := [2, 3]) (os0 := []) rfl (fun _ h => nomatch h) rfl h.2.2 rfl (by decide)
  obtain ⟨q, hq, hq'⟩ := res_get (y := x) (n := 0) h2 h3
  exact ⟨congrArg settle h.1, _, h.2.1, _, _, _, _, _, [0, 1], _, L.2, hM.mem hS L.1, hq, hq', fun W3 hS3 => ⟨x, 0, rfl, hG, hS3.bl⟩⟩
theorem end_panic (hS : Sx ⟨w, fun _ => False⟩ W [(a, cW x), (b, [.int .i64 0])] [] [] os) (hM : Mk ⟨w, fun _ => False⟩ W ds) (h2 : tmps.getD 2 undef = .pointer (some ⟨a, 0, none⟩)) (h3 : tmps.getD 3 undef = .pointer (some ⟨b, 0, none⟩)) (hG : NoC s) : GE s w a b (.panicking [{ v := wrongV, recovered := false }]) ds tmps W := by
  refine (get1_panic a b x 0 W (hS.hand (ks := [0, 1]) (rs0 := []) (os0 := []) rfl rfl (by decide) (fun _ h => nomatch h) (List.nil_sublist _))).mono fun e' u' w2 h => ?_
  let L := lift_calls hS (ks := [0, 1]) (idx := [2, 3]) (os0 := []) rfl (fun _ h => nomatch h) rfl h.2.2 rfl (by decide)
  obtain ⟨q, hq, hq'⟩ := res_get (y := zF) (n := 6) h2 h3
  exact ⟨congrArg settle h.1, _, h.2.1, _, _, _, _, _, [0, 1], _, L.2, hM.mem hS L.1, hq, hq', fun W3 hS3 => ⟨zF, 6, rfl, Or.inr ⟨rfl, rfl, hG⟩, hS3.bl⟩⟩

def dlG (a b : Nat) : List Deferred := [{ target := .fn (.func 14) #[.pointer (some ⟨a, 0, none⟩), .pointer (some ⟨b, 0, none⟩)], args := #[] }]
theorem need_die {B : Base} {bs : Blks} {gs : Bigs} {rs : Rws} (hB : B = ⟨w, fun _ => False⟩) (hg : gs = []) (ha : (pick [0, 1] bs) = [(a, cW x), (b, [.int .i64 0])]) (hl : Nat.ble 2 bs.length = true) (h2 : tmps.getD 2 undef = .pointer (some ⟨a, 0, none⟩)) (h3 : tmps.getD 3 undef = .pointer (some ⟨b, 0, none⟩)) (hG : NoC s) :
    CallPX Tryd.prog (.door (dlG a b) (GE s w a b)) B bs gs rs os 16 #[.bool false] tmps := by
  subst hB hg
  have hl := Nat.le_of_ble_eq_true hl
  intro W hS
  refine (need_false W).mono ?_
  rintro e w' ⟨rfl, rfl⟩
  refine ⟨_, rfl, Below.refl _ _, fun W ds hS hM => ?_⟩
  have h := (hS.sel [0, 1] (by simp; omega) (by decide)).norows
  rw [ha] at h
  exact end_panic h hM h2 h3 hG
end
set_option maxRecDepth 1000000 in
set_option maxHeartbeats 8000000 in
theorem need_true   (w : World)   : Calls Tryd.prog 16 #[.bool true] w (fun e w' => e = .returned (.tuple #[]) ∧ Below w.heap.size w w') := by
  exact (let B : Base := (⟨w, fun _ => False⟩ : Base); let R : Ending → World → Prop := (fun e w' => e = .returned (.tuple #[]) ∧ Below w.heap.size w w'); calls_of_planX (f := 16) (B := B) (R := R) (es := []) (c := Tryd.f16.body.getD .skip) (tmps := #[vT, vN, vN, vN, vN, vN])
    (.s [.c, .c, .v, .v, .c, .c, .c] (.ret []))
    (by kernel_rfl) (Sx.refl w _) ExX.nil Tryd.func16 (by kernel_rfl) (by kernel_rfl) (@Eq.mp _ _ (by kernel_rfl) (aI trivial ((show LeafX B R [] [] [] [] (.tuple #[]) from by
        exact fun W hS => ⟨rfl, hS.bl⟩)))))

end Go.Proofs.YtnmacidlgadmgaaDoor
