/- Walks of the reference's big numbers, second part: digits made. -/
import Derived.Test.YtgodfbhjfhdihaaDoorRb
import Derived.Deep.AppendLies
import Derived.Maps.AppendAt
import Derived.OwnWalk
import Derived.Laws.OwnMore
import Derived.Laws.MakeOwn
namespace Go.Proofs.YtgodfbhjfhdihaaDoor
open Go.RowKit
attribute [local go_sem] nlt2 nlt3 nlt4 nlt5 nlt6 nlt7 nlt8 nlt9 nlt10 nlt11 nlt12

/-- A row of digits of the call's own. -/
def OW (w : World) (base : Nat) (v : Value) (xs : List Int) : Prop := w.ownsRow base 22 1 v xs.length (xs.map fun x => .int .u64 x)
theorem grownBy_of_below {w w1 : World} (h : Below w.heap.size w w1) (row : Option Nat) : w.grownBy w1 row := ⟨h.os, h.tape, h.output, h.size, fun i hi _ => h.block i hi⟩
theorem OW.below {w w1 : World} {base : Nat} {v : Value} {xs : List Int} (h : OW w base v xs) (hb : Below w.heap.size w w1) : OW w1 base v xs :=
  h.kept (grownBy_of_below hb none) (by cases v.ownBlock <;> simp)
theorem OW.base {w : World} {base : Nat} {v : Value} {xs : List Int} (h : OW w base v xs) (k : Nat) (hk : v.ownBlock = some k) : base ≤ k := by
  rcases h.2 with ⟨rfl, _⟩ | ⟨g, cap, cur, rfl, hb, _⟩
  · simp [Value.ownBlock] at hk
  · have : g = k := by simpa [Value.ownBlock] using hk
    omega
theorem gd_map {xs : List Int} {j : Nat} (hj : j < xs.length) : (xs.map fun x => Value.int .u64 x)[j]? = some (.int .u64 (gd xs j)) := by
  unfold gd
  simp [List.getElem?_eq_getElem hj, List.getD_eq_getElem?_getD]
theorem add_plain (g j : Nat) : (⟨g, 0, none⟩ : Addr).add j = ⟨g, j, none⟩ := by unfold Addr.add; split <;> simp_all
theorem OW.reads {w : World} {base : Nat} {v : Value} {xs : List Int} (h : OW w base v xs) : ∃ A c, v = .slice A xs.length c ∧ RS w A c xs := by
  rcases h.2 with ⟨rfl, h0⟩ | ⟨g, cap, cur, rfl, hb, hh, h1, h2, h3, h4⟩
  · refine ⟨none, 0, by rw [h0], ?_⟩
    exact ⟨by omega, by omega, fun _ => rfl, fun hp => absurd hp (by omega)⟩
  · refine ⟨_, cap, rfl, ?_⟩
    refine ⟨h1, by unfold maxLen at h2; omega, (fun e => by cases e), fun _ => ⟨g, rfl, (Array.getElem?_eq_some_iff.1 hh).1, fun j hj => ?_⟩⟩
    have := h.cells (g := g) rfl j _ (gd_map hj)
    rw [add_plain] at this
    exact this

theorem OW.empty {W : World} {base n : Nat} (hn : n = W.heap.size) (hb : base ≤ n) : OW (W.alloc (.cells #[] 22)) base (.slice (some ⟨n, 0, none⟩) 0 0) [] :=
  ⟨rfl, .inr ⟨n, 0, #[], rfl, hb, by rw [hn]; exact heap_alloc_new W _, Nat.le_refl _, Nat.zero_le _, rfl, rfl⟩⟩
section
variable {P : Program} {ops : Array Oper} {rest : List Oper} {o : Oper} {a : Act} {Q : Exit → Act → World → Prop}
theorem app_u64 {w0 W : World} (base : Nat) (hgd : o.guard = none) (s x : Operand)
    (ho : o.op = .call { callee := .builtin .append, args := #[s, x], argTypes := #[31, 31] })
    (ht : P.underlying 31 = some (.slice 22)) (hinfo : (P.info? 22).map (fun i => (i.zero, i.size, i.bytes)) = some (some (.int .u64 0), 1, 8))
    (v : Value) (xs : List Int) (y : Int) (hs : a.eval s = v) (hx : a.eval x = .slice (some ⟨W.heap.size, 0, none⟩) 1 1)
    (HO : OW W base v xs) (HB : Below base w0 W) (hbase : base ≤ W.heap.size) (hl : xs.length ≤ 1000000)
    (h : ∀ v1 w1, OW w1 base v1 (xs ++ [y]) → Below base w0 w1 → W.grownBy w1 v.ownBlock → wpList P ops Q rest (a.put o.dst v1) w1) :
    wpList P ops Q (o :: rest) a (W.alloc (.cells #[.int .u64 y] 22)) := by
  obtain ⟨i0, hi, hzz⟩ := Option.map_eq_some_iff.1 hinfo
  simp only [Prod.mk.injEq] at hzz
  obtain ⟨hz0, hz1, hz2⟩ := hzz
  refine wpList_append_own_at (W.alloc (.cells #[.int .u64 y] 22)) hgd s x 31 ho base 22 i0 (.int .u64 0) 1 8 ht hi hz0 hz1 hz2 rfl (by omega) v xs.length _ hs (World.ownsRow.alloc HO _) ⟨W.heap.size, 0, none⟩ 1 1 [.int .u64 y] hx rfl
    (World.news_of_block (cs := #[.int .u64 y]) (t := 22) (fr := (0, 0)) (heap_alloc_new W _)) (by simp [Value.oneCell']) (by simp only [maxLen]; omega) (by omega) (by simp; omega) ?_
  intro v1 w1 hown hg _ hat
  refine h v1 w1 (by unfold OW; simpa using hown) ((HB.alloc hbase _).grown hg (by simp; omega) (OW.base HO)) (World.grownBy.trans (World.grownBy_alloc W _ _) hg)
end
theorem tdiv_u64 {y : Int} (h0 : 0 ≤ y) (h1 : y < 18446744073709551616) : IntKind.u64.wrap (y.tdiv 65536) = y / 65536 := by
  rw [Int.tdiv_eq_ediv_of_nonneg h0, IntKind.wrap_u64]; omega
theorem info_u64 : (Tryd.prog.info? 22).map (fun i => (i.zero, i.size, i.bytes)) = some (some (.int .u64 0), 1, 8) := by kernel_rfl

set_option maxRecDepth 100000 in
set_option maxHeartbeats 2000000 in
theorem ref_natural (x : Int) (hx : U64 x) (w : World) :
    Calls Tryd.prog 73 #[.int .u64 x] w fun e w' => ∃ A c, e = .returned (.agg #[.bool false, .slice A (nd x) c]) ∧ RB w' A c x ∧ Below w.heap.size w w' := by
  have hd0 : digs x.toNat = digs x.natAbs := by congr 1; have := hx.1; omega
  have HX := Asd.mk hx
  go_enter Tryd.func73, Tryd.ntmps73
  go_wp2
  go_loopw [0, 3, 4] (fun v0 v3 v4 wr => ∃ (k : Nat) (xs : List Int) (y : Int), k ≤ 4 ∧ v4 = .int .i64 k ∧ v0 = .int .u64 y ∧ Asd (0 ≤ y ∧ y < 18446744073709551616 ∧ Dg xs ∧ xs.length = k ∧ x = vald xs + pB k * y) ∧ Asd (OW wr (w.heap.size + 1) v3 xs) ∧ Asd (Below (w.heap.size + 1) (w.alloc (.cells #[.bool false, .slice none 0 0] 33)) wr)) (fun _ _ v4 _ => 4 - (intOf v4).toNat)
  case atStart =>
    refine ⟨0, [], x, by omega, rfl, rfl, ⟨HX.out.1, HX.out.2, Dg.nil, rfl, by simp [vald, pB]⟩, ⟨?_⟩, ⟨?_⟩⟩
    · exact OW.empty (by simp) (Nat.le_refl _)
    · exact (Below.refl _ _).alloc (by simp) _
  case round =>
    obtain ⟨k, xs, y, hk, rfl, rfl, HV, HO, HB⟩ := hrel
    have HS := HB.out.size
    have HL : xs.length ≤ 1000000 := by have := HV.out.2.2.2.1; omega
    have HS : w.heap.size + 1 ≤ wr.heap.size := by simpa using HS
    by_cases hlt : k < 4
    · have hy0 := HV.out.1
      go_wp2_with (at_builtin; refine app_u64 (w0 := w.alloc (.cells #[.bool false, .slice none 0 0] 33)) (w.heap.size + 1) rfl (.tmp 10) (.tmp 13) rfl Tryd.underlying31 info_u64 (u3) (xs) (y % 65536) rfl rfl HO.out HB.out HS HL ?_; intro v1 w1 HO1 HB1 _)
      go_roundw
      case rel =>
        obtain ⟨y0, y1, hd, hlen, hx⟩ := HV.out
        refine ⟨k + 1, xs ++ [y % 65536], y / 65536, by omega, by go_num, by rw [tdiv_u64 y0 y1], ⟨by omega, by omega, Dg.snoc hd (by omega) (by omega), by simp [hlen], ?_⟩, ⟨HO1⟩, ⟨HB1⟩⟩
        rw [vald_snoc, hlen, pB_succ, hx]
        have e : pB k * y = pB k * (y % 65536) + 65536 * pB k * (y / 65536) := by
          have h1 : y = y % 65536 + 65536 * (y / 65536) := by omega
          have h2 : pB k * y = pB k * (y % 65536 + 65536 * (y / 65536)) := congrArg _ h1
          rw [h2, Int.mul_add, Int.mul_left_comm, Int.mul_assoc]
        omega
      case measure => simp [intOf]; omega
    · obtain rfl : k = 4 := by omega
      obtain ⟨A, c, rfl, hrs⟩ := OW.reads HO.out
      obtain ⟨y0, y1, hd, hlen, hx⟩ := HV.out
      have hx0 := HX.out
      have hy : y = 0 := by
        have := vald_nonneg hd
        have e4 : pB 4 = 18446744073709551616 := by decide
        unfold U64 at hx0
        rw [e4] at hx
        omega
      have hz : x = if false = true then -vald xs else vald xs := by rw [hx, hy]; simp
      have HC := Asd.mk (fun W h => ref_cut false A c xs x hd hz W h)
      have hneg : decide (x < 0) = false := by unfold U64 at hx0; exact decide_eq_false (by omega)
      clear hlen hx hz hy y0 y1 hx0
      obtain ⟨p0, p1, p2, p3⟩ : Bx wr w.heap.size (.bool false) (.slice none 0 0) := Bx.low HB.out (by simp) (by simp [Bx, go_sem])
      have HQ := Asd.mk (show Bx wr w.heap.size _ _ from ⟨p0, p1, p2, p3⟩)
      clear p0 p1 p2 p3
      have HBw : Below w.heap.size w wr := ((Below.refl _ _).alloc (Nat.le_refl _) _).trans (HB.out.mono (by simp))
      have hz0 : w.heap.size < wr.heap.size := by omega
      go_wp2_with (go_at_call 75; refine (HC.out _ hrs).mono ?_; rintro e w1 ⟨rfl, hrb, hb1⟩; obtain ⟨p0, p1, p2, p3⟩ := Bx.low hb1 hz0 HQ.out; have hz1 : w.heap.size < w1.heap.size := Nat.lt_of_lt_of_le hz0 hb1.size)
      have HR := hrb
      clear hrb
      refine bodyPost_ret (v := .agg #[.bool false, .slice A (nd x) c]) (by simp (maxDischargeDepth := 9) [results, Tryd.results73, go_sem, *]) rfl ⟨A, c, rfl, ?_, (by repeat (first | exact Below.refl _ _ | assumption | refine bl_alloc ?_ _ | refine bl_drewN ?_ _ | refine bl_drew ?_ | refine bl_set ?_ (by first | (simp; done) | (simp; omega) | (dsimp only; omega)) _ | refine bl_then ?_ (by assumption)))⟩
      exact RS.store (RS.store HR (v := false) p0) (v := false) (by simp [go_sem, *])
end Go.Proofs.YtgodfbhjfhdihaaDoor
