/- Walks of the laws of layer 11 (gain), by plans: GainPlays. -/
import Derived.Test.YtpdggnocnaaanaaDoorNa
namespace Go.Proofs.YtpdggnocnaaanaaDoor
open Go.RowKit
set_option linter.unusedSimpArgs false
set_option linter.unusedVariables false
def ofE (p : Nat → Int) (s : Int) (c : Bool) (t : Nat → Int) : Int := if c then (if fits3 t then 0 else 1) else bestE p s
def ofV (p : Nat → Int) (s : Int) (c : Bool) (t : Nat → Int) (i : Nat) : Int := if c then (if fits3 t then t i else 0) else bestV p s i
theorem of_short {p t : Nat → Int} {s : Int} {c : Bool} (h : c = true) : ofE p s c t = (if fits3 t then 0 else 1) ∧ ∀ i, ofV p s c t i = (if fits3 t then t i else 0) := by subst h; exact ⟨rfl, fun _ => rfl⟩
theorem of_long {p t : Nat → Int} {s : Int} {c : Bool} (h : c = false) : ofE p s c t = bestE p s ∧ ∀ i, ofV p s c t i = bestV p s i := by subst h; exact ⟨rfl, fun _ => rfl⟩
theorem vadd_zero3 (t : Nat → Int) : vaddE t (v3 0 0 0) = (if fits3 t then 0 else 1) ∧ vaddV t (v3 0 0 0) 0 = (if fits3 t then t 0 else 0) ∧ vaddV t (v3 0 0 0) 1 = (if fits3 t then t 1 else 0) ∧ vaddV t (v3 0 0 0) 2 = (if fits3 t then t 2 else 0) := by
  have hz : fits3 (v3 0 0 0) = true := by decide
  cases h : fits3 t
  · obtain ⟨a, b⟩ := vadd_no (a := t) (b := v3 0 0 0) (by rw [h]; rfl)
    exact ⟨a, b 0, b 1, b 2⟩
  · obtain ⟨f0, f1, f2⟩ := fits3_at h
    obtain ⟨a, b⟩ := vadd_yes h hz
    have k : ∀ z, fitB z = true → bothE z 0 (z + 0) = 0 ∧ bothV z 0 (z + 0) = z := fun z q => by
      have := both_yes (a := z) (b := 0) (z := z + 0) q (by decide)
      rw [Int.add_zero] at this ⊢
      rw [this.1, this.2]; exact ⟨(to_fit q).2, (to_fit q).1⟩
    have Y0 : vaddY t (v3 0 0 0) 0 = 0 := (k _ f0).1
    have Y1 : vaddY t (v3 0 0 0) 1 = 0 := (k _ f1).1
    have Y2 : vaddY t (v3 0 0 0) 2 = 0 := (k _ f2).1
    have E := each_4 (e0 := 0) (e1 := 0) (e2 := 0) rfl rfl rfl
    rw [a, b 0, b 1, b 2, Y0, Y1, Y2, E.1, E.2, E.2, E.2]
    exact ⟨rfl, (k _ f0).2, (k _ f1).2, (k _ f2).2⟩
set_option maxRecDepth 1000000 in
set_option maxHeartbeats 8000000 in
theorem gain_Of1_plan (p : Nat → Int) (s : Int) (b1 b2 : Nat) (w : World) (R : Ending → World → Prop) (hG : St w w [] []) (hE : Ex w [(b1, [.int .i64 (p 0), .int .i64 (p 1), .int .i64 (p 2), .int .i64 (p 3), .int .i64 (p 4), .int .i64 (p 5)]), (b2, [.int .i64 s])])
    (h : ∀ r1 : Nat, b1 = b1 ∧ b2 = b2 ∧ CallV Tryd.prog w [(r1, [.int .i64 0, .int .i64 0, .int .i64 0])] [] 19 #[.agg #[.int .i64 (p 0), .int .i64 (p 1), .int .i64 (p 2), .int .i64 (p 3), .int .i64 (p 4), .int .i64 (p 5)], .int .i64 s] (.tuple #[.agg #[.int .i64 (bestV p s 0), .int .i64 (bestV p s 1), .int .i64 (bestV p s 2)], .int .i64 (bestE p s)]) ∧ (r1 = r1 ∧ (r1 = r1 ∧ (r1 = r1 ∧ (True)))) ∧ (r1 = r1 ∧ (True)) ∧ (LeafV R w [(r1, [.int .i64 (bestV p s 0), .int .i64 (bestV p s 1), .int .i64 (bestV p s 2)])] [] (.tuple #[.agg #[.int .i64 (bestV p s 0), .int .i64 (bestV p s 1), .int .i64 (bestV p s 2)], .int .i64 (bestE p s)]))) : Calls Tryd.prog 72 #[.pointer (some ⟨b1, 0, none⟩), .pointer (some ⟨b2, 0, none⟩)] w R :=
  calls_of_plan (f := 72) (es := [(b1, [.int .i64 (p 0), .int .i64 (p 1), .int .i64 (p 2), .int .i64 (p 3), .int .i64 (p 4), .int .i64 (p 5)]), (b2, [.int .i64 s])]) (c := Tryd.f72.body.getD .skip) (tmps := #[.pointer (some ⟨b1, 0, none⟩), .pointer (some ⟨b2, 0, none⟩), undef, undef, undef, undef, undef, undef, undef])
    (.s [.c, .c] (.new (fun r1 => .s [.v, .c, .c, .c, .ext 0, .ext 1, .call (.tuple #[.agg #[.int .i64 (bestV p s 0), .int .i64 (bestV p s 1), .int .i64 (bestV p s 2)], .int .i64 (bestE p s)]), .v, .v, .put 0, .v, .c] (.ret [0]))))
    (by kernel_rfl) hG hE Tryd.func72 (by kernel_rfl) (by kernel_rfl) (Eq.mpr (by kernel_rfl) h)
set_option maxRecDepth 1000000 in
set_option maxHeartbeats 8000000 in
theorem gain_Of1 (p : Nat → Int) (s : Int) (b1 b2 : Nat) (hp6 : ∀ i, I64 (p i)) (hs : I64 s) (w : World) (hg : GN w) (hl : GL w) (cb10 : w.cell? ⟨b1, 0, none⟩ = some (.int .i64 (p 0))) (cb11 : w.cell? ⟨b1, 1, none⟩ = some (.int .i64 (p 1))) (cb12 : w.cell? ⟨b1, 2, none⟩ = some (.int .i64 (p 2))) (cb13 : w.cell? ⟨b1, 3, none⟩ = some (.int .i64 (p 3))) (cb14 : w.cell? ⟨b1, 4, none⟩ = some (.int .i64 (p 4))) (cb15 : w.cell? ⟨b1, 5, none⟩ = some (.int .i64 (p 5))) (cb20 : w.cell? ⟨b2, 0, none⟩ = some (.int .i64 s)) : Calls Tryd.prog 72 #[.pointer (some ⟨b1, 0, none⟩), .pointer (some ⟨b2, 0, none⟩)] w (fun e w' => e = .returned (.tuple #[.agg #[.int .i64 (bestV p s 0), .int .i64 (bestV p s 1), .int .i64 (bestV p s 2)], .int .i64 (bestE p s)]) ∧ Below w.heap.size w w') := by
  refine gain_Of1_plan p s b1 b2 w _ (St.refl w) (Ex.cons (exOf (by exact ⟨cb10, cb11, cb12, cb13, cb14, cb15, trivial⟩)) (Ex.cons (exOf (by exact ⟨cb20, trivial⟩)) (Ex.nil))) ?_
  intro r1
  refine ⟨rfl, rfl, (CallV.be fun W hS => gain_Best p s hp6 hs W (hg.below hS.bl) (hl.below hS.bl)), ⟨rfl, rfl, rfl, trivial⟩, ⟨rfl, trivial⟩, ?_⟩
  exact fun W hS => ⟨rfl, hS.bl⟩
set_option maxRecDepth 1000000 in
set_option maxHeartbeats 8000000 in
theorem gain_Of2_plan (t : Nat → Int) (b1 : Nat) (w : World) (R : Ending → World → Prop) (hG : St w w [] []) (hE : Ex w [(b1, [.int .i64 (t 0), .int .i64 (t 1), .int .i64 (t 2)])])
    (h : ∀ r1 : Nat, b1 = b1 ∧ CallV Tryd.prog w [(r1, [.int .i64 0, .int .i64 0, .int .i64 0])] [] 41 #[.agg #[.int .i64 (t 0), .int .i64 (t 1), .int .i64 (t 2)], .agg #[.int .i64 0, .int .i64 0, .int .i64 0]] (.tuple #[.agg #[.int .i64 (vaddV t (v3 0 0 0) 0), .int .i64 (vaddV t (v3 0 0 0) 1), .int .i64 (vaddV t (v3 0 0 0) 2)], .int .i64 (vaddE t (v3 0 0 0))]) ∧ (r1 = r1 ∧ (r1 = r1 ∧ (r1 = r1 ∧ (True)))) ∧ (r1 = r1 ∧ (True)) ∧ (LeafV R w [(r1, [.int .i64 (vaddV t (v3 0 0 0) 0), .int .i64 (vaddV t (v3 0 0 0) 1), .int .i64 (vaddV t (v3 0 0 0) 2)])] [] (.tuple #[.agg #[.int .i64 (vaddV t (v3 0 0 0) 0), .int .i64 (vaddV t (v3 0 0 0) 1), .int .i64 (vaddV t (v3 0 0 0) 2)], .int .i64 (vaddE t (v3 0 0 0))]))) : Calls Tryd.prog 73 #[.pointer (some ⟨b1, 0, none⟩)] w R :=
  calls_of_plan (f := 73) (es := [(b1, [.int .i64 (t 0), .int .i64 (t 1), .int .i64 (t 2)])]) (c := Tryd.f73.body.getD .skip) (tmps := #[.pointer (some ⟨b1, 0, none⟩), undef, undef, undef, undef, undef, undef, undef])
    (.s [.c, .c] (.new (fun r1 => .s [.v, .c, .c, .c, .ext 0, .v, .call (.tuple #[.agg #[.int .i64 (vaddV t (v3 0 0 0) 0), .int .i64 (vaddV t (v3 0 0 0) 1), .int .i64 (vaddV t (v3 0 0 0) 2)], .int .i64 (vaddE t (v3 0 0 0))]), .v, .v, .put 0, .v, .c] (.ret [0]))))
    (by kernel_rfl) hG hE Tryd.func73 (by kernel_rfl) (by kernel_rfl) (Eq.mpr (by kernel_rfl) h)
set_option maxRecDepth 1000000 in
set_option maxHeartbeats 8000000 in
theorem gain_Of2 (t : Nat → Int) (b1 : Nat) (ht : ∀ i, I64 (t i)) (w : World) (cb10 : w.cell? ⟨b1, 0, none⟩ = some (.int .i64 (t 0))) (cb11 : w.cell? ⟨b1, 1, none⟩ = some (.int .i64 (t 1))) (cb12 : w.cell? ⟨b1, 2, none⟩ = some (.int .i64 (t 2))) : Calls Tryd.prog 73 #[.pointer (some ⟨b1, 0, none⟩)] w (fun e w' => e = .returned (.tuple #[.agg #[.int .i64 (if fits3 t then t 0 else 0), .int .i64 (if fits3 t then t 1 else 0), .int .i64 (if fits3 t then t 2 else 0)], .int .i64 (if fits3 t then 0 else 1)]) ∧ Below w.heap.size w w') := by
  refine gain_Of2_plan t b1 w _ (St.refl w) (by exact Ex.cons (exOf (by exact ⟨cb10, cb11, cb12, trivial⟩)) (Ex.nil)) ?_
  intro r1
  refine ⟨rfl, (CallV.be fun W hS => vec_Add t (v3 0 0 0) ht (v3_all (p := I64) (by decide) (by decide) (by decide)) W), ⟨rfl, rfl, rfl, trivial⟩, ⟨rfl, trivial⟩, ?_⟩
  have F := vadd_zero3 t
  exact fun W hS => ⟨by rw [F.1, F.2.1, F.2.2.1, F.2.2.2], hS.bl⟩
set_option maxRecDepth 1000000 in
set_option maxHeartbeats 8000000 in
theorem gain_Of_plan (p : Nat → Int) (s : Int) (c : Bool) (t : Nat → Int) (w : World) (R : Ending → World → Prop) (hG : St w w [] []) (hE : Ex w [])
    (h : ∀ r1 : Nat, ∀ r2 : Nat, ∀ r3 : Nat, ∀ r4 : Nat, ∀ r5 : Nat, (r5 = r5 ∧ (True)) ∧ ((c = true → (r5 = r5 ∧ (True)) ∧ r5 = r5 ∧ CallV Tryd.prog w [(r1, [.int .i64 (p 0), .int .i64 (p 1), .int .i64 (p 2), .int .i64 (p 3), .int .i64 (p 4), .int .i64 (p 5)]), (r2, [.int .i64 s]), (r3, [.int .i64 (t 0), .int .i64 (t 1), .int .i64 (t 2)]), (r4, [.int .i64 0, .int .i64 0, .int .i64 0]), (r5, [.func (.func 73) #[] #[.pointer (some ⟨r3, 0, none⟩)]])] [] 73 #[.pointer (some ⟨r3, 0, none⟩)] (.tuple #[.agg #[.int .i64 (if fits3 t then t 0 else 0), .int .i64 (if fits3 t then t 1 else 0), .int .i64 (if fits3 t then t 2 else 0)], .int .i64 (if fits3 t then 0 else 1)]) ∧ (r4 = r4 ∧ (r4 = r4 ∧ (r4 = r4 ∧ (True)))) ∧ (r4 = r4 ∧ (True)) ∧ (LeafV R w [(r1, [.int .i64 (p 0), .int .i64 (p 1), .int .i64 (p 2), .int .i64 (p 3), .int .i64 (p 4), .int .i64 (p 5)]), (r2, [.int .i64 s]), (r3, [.int .i64 (t 0), .int .i64 (t 1), .int .i64 (t 2)]), (r4, [.int .i64 (if fits3 t then t 0 else 0), .int .i64 (if fits3 t then t 1 else 0), .int .i64 (if fits3 t then t 2 else 0)]), (r5, [.func (.func 73) #[] #[.pointer (some ⟨r3, 0, none⟩)]])] [] (.tuple #[.agg #[.int .i64 (if fits3 t then t 0 else 0), .int .i64 (if fits3 t then t 1 else 0), .int .i64 (if fits3 t then t 2 else 0)], .int .i64 (if fits3 t then 0 else 1)]))) ∧ (c = false → r5 = r5 ∧ CallV Tryd.prog w [(r1, [.int .i64 (p 0), .int .i64 (p 1), .int .i64 (p 2), .int .i64 (p 3), .int .i64 (p 4), .int .i64 (p 5)]), (r2, [.int .i64 s]), (r3, [.int .i64 (t 0), .int .i64 (t 1), .int .i64 (t 2)]), (r4, [.int .i64 0, .int .i64 0, .int .i64 0]), (r5, [.func (.func 72) #[] #[.pointer (some ⟨r1, 0, none⟩), .pointer (some ⟨r2, 0, none⟩)]])] [] 72 #[.pointer (some ⟨r1, 0, none⟩), .pointer (some ⟨r2, 0, none⟩)] (.tuple #[.agg #[.int .i64 (bestV p s 0), .int .i64 (bestV p s 1), .int .i64 (bestV p s 2)], .int .i64 (bestE p s)]) ∧ (r4 = r4 ∧ (r4 = r4 ∧ (r4 = r4 ∧ (True)))) ∧ (r4 = r4 ∧ (True)) ∧ (LeafV R w [(r1, [.int .i64 (p 0), .int .i64 (p 1), .int .i64 (p 2), .int .i64 (p 3), .int .i64 (p 4), .int .i64 (p 5)]), (r2, [.int .i64 s]), (r3, [.int .i64 (t 0), .int .i64 (t 1), .int .i64 (t 2)]), (r4, [.int .i64 (bestV p s 0), .int .i64 (bestV p s 1), .int .i64 (bestV p s 2)]), (r5, [.func (.func 72) #[] #[.pointer (some ⟨r1, 0, none⟩), .pointer (some ⟨r2, 0, none⟩)]])] [] (.tuple #[.agg #[.int .i64 (bestV p s 0), .int .i64 (bestV p s 1), .int .i64 (bestV p s 2)], .int .i64 (bestE p s)]))))) : Calls Tryd.prog 32 #[.agg #[.int .i64 (p 0), .int .i64 (p 1), .int .i64 (p 2), .int .i64 (p 3), .int .i64 (p 4), .int .i64 (p 5)], .int .i64 s, .bool c, .agg #[.int .i64 (t 0), .int .i64 (t 1), .int .i64 (t 2)]] w R :=
  calls_of_plan (f := 32) (es := []) (c := Tryd.f32.body.getD .skip) (tmps := #[.agg #[.int .i64 (p 0), .int .i64 (p 1), .int .i64 (p 2), .int .i64 (p 3), .int .i64 (p 4), .int .i64 (p 5)], .int .i64 s, .bool c, .agg #[.int .i64 (t 0), .int .i64 (t 1), .int .i64 (t 2)], undef, undef, undef, undef, undef, undef, undef, undef, undef, undef, undef, undef, undef, undef, undef, undef, undef])
    (.s [.c, .c] (.new (fun r1 => .new (fun r2 => .new (fun r3 => .new (fun r4 => .s [.v, .c, .c, .c, .v, .v] (.new (fun r5 => .s [.put 4, .c, .c, .c, .c, .v, .c] (.split 13 (.s [.c, .c, .v, .v, .put 4, .c, .c, .c, .v, .own 4, .call (.tuple #[.agg #[.int .i64 (if fits3 t then t 0 else 0), .int .i64 (if fits3 t then t 1 else 0), .int .i64 (if fits3 t then t 2 else 0)], .int .i64 (if fits3 t then 0 else 1)]), .v, .v, .put 3, .v, .c] (.ret [3])) (.s [.c, .c, .c, .c, .v, .own 4, .call (.tuple #[.agg #[.int .i64 (bestV p s 0), .int .i64 (bestV p s 1), .int .i64 (bestV p s 2)], .int .i64 (bestE p s)]), .v, .v, .put 3, .v, .c] (.ret [3])))))))))))
    (by kernel_rfl) hG hE Tryd.func32 (by kernel_rfl) (by kernel_rfl) (Eq.mpr (by kernel_rfl) h)
set_option maxRecDepth 1000000 in
set_option maxHeartbeats 8000000 in
theorem gain_Of (p : Nat → Int) (s : Int) (c : Bool) (t : Nat → Int) (hp6 : ∀ i, I64 (p i)) (hs : I64 s) (_hc : True) (ht : ∀ i, I64 (t i)) (w : World) (hg : GN w) (hl : GL w) : Calls Tryd.prog 32 #[.agg #[.int .i64 (p 0), .int .i64 (p 1), .int .i64 (p 2), .int .i64 (p 3), .int .i64 (p 4), .int .i64 (p 5)], .int .i64 s, .bool c, .agg #[.int .i64 (t 0), .int .i64 (t 1), .int .i64 (t 2)]] w (fun e w' => e = .returned (.tuple #[.agg #[.int .i64 (ofV p s c t 0), .int .i64 (ofV p s c t 1), .int .i64 (ofV p s c t 2)], .int .i64 (ofE p s c t)]) ∧ Below w.heap.size w w') := by
  refine gain_Of_plan p s c t w _ (St.refl w) Ex.nil ?_
  intro r1
  intro r2
  intro r3
  intro r4
  intro r5
  refine ⟨⟨rfl, trivial⟩, ?_⟩
  refine ⟨?_, ?_⟩
  · intro h6
    refine ⟨⟨rfl, trivial⟩, rfl, (CallV.be fun W hS => gain_Of2 t r3 ht W (hS.cell 2 0 rfl rfl) (hS.cell 2 1 rfl rfl) (hS.cell 2 2 rfl rfl)), ⟨rfl, rfl, rfl, trivial⟩, ⟨rfl, trivial⟩, ?_⟩
    have F := of_short (p := p) (t := t) (s := s) h6
    exact fun W hS => ⟨by simp only [F.1, F.2], hS.bl⟩
  · intro h7
    refine ⟨rfl, (CallV.be fun W hS => gain_Of1 p s r1 r2 hp6 hs W (hg.below hS.bl) (hl.below hS.bl) (hS.cell 0 0 rfl rfl) (hS.cell 0 1 rfl rfl) (hS.cell 0 2 rfl rfl) (hS.cell 0 3 rfl rfl) (hS.cell 0 4 rfl rfl) (hS.cell 0 5 rfl rfl) (hS.cell 1 0 rfl rfl)), ⟨rfl, rfl, rfl, trivial⟩, ⟨rfl, trivial⟩, ?_⟩
    have F := of_long (p := p) (t := t) (s := s) h7
    exact fun W hS => ⟨by simp only [F.1, F.2], hS.bl⟩
set_option maxRecDepth 1000000 in
set_option maxHeartbeats 8000000 in
theorem ref11_Of_plan (p : Nat → Int) (s : Int) (c : Bool) (t : Nat → Int) (w : World) (R : Ending → World → Prop) (hG : St w w [] []) (hE : Ex w [])
    (h : ∀ r1 : Nat, ∀ r2 : Nat, ∀ r3 : Nat, ((!c) = true → r1 = r1 ∧ CallV Tryd.prog w [(r1, [.int .i64 (p 0), .int .i64 (p 1), .int .i64 (p 2), .int .i64 (p 3), .int .i64 (p 4), .int .i64 (p 5)]), (r2, [.int .i64 (t 0), .int .i64 (t 1), .int .i64 (t 2)]), (r3, [.int .i64 0, .int .i64 0, .int .i64 0])] [] 31 #[.agg #[.int .i64 (p 0), .int .i64 (p 1), .int .i64 (p 2), .int .i64 (p 3), .int .i64 (p 4), .int .i64 (p 5)], .int .i64 s] (.tuple #[.agg #[.int .i64 (bestV p s 0), .int .i64 (bestV p s 1), .int .i64 (bestV p s 2)], .int .i64 (bestE p s)]) ∧ (r3 = r3 ∧ (r3 = r3 ∧ (r3 = r3 ∧ (True)))) ∧ (r3 = r3 ∧ (True)) ∧ (LeafV R w [(r1, [.int .i64 (p 0), .int .i64 (p 1), .int .i64 (p 2), .int .i64 (p 3), .int .i64 (p 4), .int .i64 (p 5)]), (r2, [.int .i64 (t 0), .int .i64 (t 1), .int .i64 (t 2)]), (r3, [.int .i64 (bestV p s 0), .int .i64 (bestV p s 1), .int .i64 (bestV p s 2)])] [] (.tuple #[.agg #[.int .i64 (bestV p s 0), .int .i64 (bestV p s 1), .int .i64 (bestV p s 2)], .int .i64 (bestE p s)]))) ∧ ((!c) = false → r2 = r2 ∧ CallV Tryd.prog w [(r1, [.int .i64 (p 0), .int .i64 (p 1), .int .i64 (p 2), .int .i64 (p 3), .int .i64 (p 4), .int .i64 (p 5)]), (r2, [.int .i64 (t 0), .int .i64 (t 1), .int .i64 (t 2)]), (r3, [.int .i64 0, .int .i64 0, .int .i64 0])] [] 45 #[.agg #[.int .i64 (t 0), .int .i64 (t 1), .int .i64 (t 2)]] (.bool (fits3 t)) ∧ (((!(fits3 t)) = true → (r3 = r3 ∧ (r3 = r3 ∧ (r3 = r3 ∧ (True)))) ∧ (r3 = r3 ∧ (True)) ∧ (LeafV R w [(r1, [.int .i64 (p 0), .int .i64 (p 1), .int .i64 (p 2), .int .i64 (p 3), .int .i64 (p 4), .int .i64 (p 5)]), (r2, [.int .i64 (t 0), .int .i64 (t 1), .int .i64 (t 2)]), (r3, [.int .i64 0, .int .i64 0, .int .i64 0])] [] (.tuple #[.agg #[.int .i64 0, .int .i64 0, .int .i64 0], .int .i64 1]))) ∧ ((!(fits3 t)) = false → r2 = r2 ∧ (r3 = r3 ∧ (r3 = r3 ∧ (r3 = r3 ∧ (True)))) ∧ (r3 = r3 ∧ (True)) ∧ (LeafV R w [(r1, [.int .i64 (p 0), .int .i64 (p 1), .int .i64 (p 2), .int .i64 (p 3), .int .i64 (p 4), .int .i64 (p 5)]), (r2, [.int .i64 (t 0), .int .i64 (t 1), .int .i64 (t 2)]), (r3, [.int .i64 (t 0), .int .i64 (t 1), .int .i64 (t 2)])] [] (.tuple #[.agg #[.int .i64 (t 0), .int .i64 (t 1), .int .i64 (t 2)], .int .i64 0])))))) : Calls Tryd.prog 33 #[.agg #[.int .i64 (p 0), .int .i64 (p 1), .int .i64 (p 2), .int .i64 (p 3), .int .i64 (p 4), .int .i64 (p 5)], .int .i64 s, .bool c, .agg #[.int .i64 (t 0), .int .i64 (t 1), .int .i64 (t 2)]] w R :=
  calls_of_plan (f := 33) (es := []) (c := Tryd.f33.body.getD .skip) (tmps := #[.agg #[.int .i64 (p 0), .int .i64 (p 1), .int .i64 (p 2), .int .i64 (p 3), .int .i64 (p 4), .int .i64 (p 5)], .int .i64 s, .bool c, .agg #[.int .i64 (t 0), .int .i64 (t 1), .int .i64 (t 2)], undef, undef, undef, undef, undef, undef, undef, undef, undef, undef, undef, undef, undef, undef, undef, undef, undef, undef])
    (.s [.c, .c] (.new (fun r1 => .new (fun r2 => .new (fun r3 => .s [.v, .c, .c, .c, .c, .v, .v, .c] (.split 11 (.s [.c, .c, .c, .own 0, .v, .call (.tuple #[.agg #[.int .i64 (bestV p s 0), .int .i64 (bestV p s 1), .int .i64 (bestV p s 2)], .int .i64 (bestE p s)]), .v, .v, .put 2, .v, .c] (.ret [2])) (.s [.c, .c, .c, .c, .c, .own 1, .call (.bool (fits3 t)), .v, .c] (.split 19 (.s [.c, .c, .c, .v, .put 2, .v, .c] (.ret [2])) (.s [.c, .c, .c, .c, .own 1, .put 2, .v, .c] (.ret [2]))))))))))
    (by kernel_rfl) hG hE Tryd.func33 (by kernel_rfl) (by kernel_rfl) (Eq.mpr (by kernel_rfl) h)
set_option maxRecDepth 1000000 in
set_option maxHeartbeats 8000000 in
theorem ref11_Of (p : Nat → Int) (s : Int) (c : Bool) (t : Nat → Int) (hp6 : ∀ i, I64 (p i)) (hs : I64 s) (_hc : True) (ht : ∀ i, I64 (t i)) (w : World)  : Calls Tryd.prog 33 #[.agg #[.int .i64 (p 0), .int .i64 (p 1), .int .i64 (p 2), .int .i64 (p 3), .int .i64 (p 4), .int .i64 (p 5)], .int .i64 s, .bool c, .agg #[.int .i64 (t 0), .int .i64 (t 1), .int .i64 (t 2)]] w (fun e w' => e = .returned (.tuple #[.agg #[.int .i64 (ofV p s c t 0), .int .i64 (ofV p s c t 1), .int .i64 (ofV p s c t 2)], .int .i64 (ofE p s c t)]) ∧ Below w.heap.size w w') := by
  refine ref11_Of_plan p s c t w _ (St.refl w) Ex.nil ?_
  intro r1
  intro r2
  intro r3
  refine ⟨?_, ?_⟩
  · intro h40
    have h4 : c = false := by simpa using h40
    refine ⟨rfl, (CallV.be fun W hS => ref11_Best p s hp6 hs W), ⟨rfl, rfl, rfl, trivial⟩, ⟨rfl, trivial⟩, ?_⟩
    have F := of_long (p := p) (t := t) (s := s) h4
    exact fun W hS => ⟨by simp only [F.1, F.2], hS.bl⟩
  · intro h50
    have h5 : c = true := by simpa using h50
    refine ⟨rfl, (CallV.be fun W hS => ref4_Fits t W), ?_⟩
    refine ⟨?_, ?_⟩
    · intro h60
      have h6 : (fits3 t) = false := by simpa using h60
      refine ⟨⟨rfl, rfl, rfl, trivial⟩, ⟨rfl, trivial⟩, ?_⟩
      have F := of_short (p := p) (t := t) (s := s) h5
      rw [h6] at F
      exact fun W hS => ⟨by simp only [F.1, F.2, if_true, if_false, Bool.false_eq_true], hS.bl⟩
    · intro h70
      have h7 : (fits3 t) = true := by simpa using h70
      refine ⟨rfl, ⟨rfl, rfl, rfl, trivial⟩, ⟨rfl, trivial⟩, ?_⟩
      have F := of_short (p := p) (t := t) (s := s) h5
      rw [h7] at F
      exact fun W hS => ⟨by simp only [F.1, F.2, if_true, if_false, Bool.false_eq_true], hS.bl⟩
set_option maxRecDepth 1000000 in
set_option maxHeartbeats 8000000 in
theorem law_GainPlays_plan (p : Nat → Int) (s : Int) (c : Bool) (t : Nat → Int) (w : World) (R : Ending → World → Prop) (hG : St w w [] []) (hE : Ex w [])
    (h : ∀ r1 : Nat, r1 = r1 ∧ r1 = r1 ∧ CallV Tryd.prog w [(r1, [.int .i64 (p 0), .int .i64 (p 1), .int .i64 (p 2), .int .i64 (p 3), .int .i64 (p 4), .int .i64 (p 5), .int .i64 s, .bool c, .int .i64 (t 0), .int .i64 (t 1), .int .i64 (t 2)])] [] 19 #[.agg #[.int .i64 (p 0), .int .i64 (p 1), .int .i64 (p 2), .int .i64 (p 3), .int .i64 (p 4), .int .i64 (p 5)], .int .i64 s] (.tuple #[.agg #[.int .i64 (bestV p s 0), .int .i64 (bestV p s 1), .int .i64 (bestV p s 2)], .int .i64 (bestE p s)]) ∧ (∀ r2 : Nat, (r2 = r2 ∧ (r2 = r2 ∧ (r2 = r2 ∧ (True)))) ∧ r1 = r1 ∧ r1 = r1 ∧ CallV Tryd.prog w [(r1, [.int .i64 (p 0), .int .i64 (p 1), .int .i64 (p 2), .int .i64 (p 3), .int .i64 (p 4), .int .i64 (p 5), .int .i64 s, .bool c, .int .i64 (t 0), .int .i64 (t 1), .int .i64 (t 2)]), (r2, [.int .i64 (bestV p s 0), .int .i64 (bestV p s 1), .int .i64 (bestV p s 2)])] [] 31 #[.agg #[.int .i64 (p 0), .int .i64 (p 1), .int .i64 (p 2), .int .i64 (p 3), .int .i64 (p 4), .int .i64 (p 5)], .int .i64 s] (.tuple #[.agg #[.int .i64 (bestV p s 0), .int .i64 (bestV p s 1), .int .i64 (bestV p s 2)], .int .i64 (bestE p s)]) ∧ (∀ r3 : Nat, (r3 = r3 ∧ (r3 = r3 ∧ (r3 = r3 ∧ (True)))) ∧ r1 = r1 ∧ r1 = r1 ∧ r1 = r1 ∧ r1 = r1 ∧ CallV Tryd.prog w [(r1, [.int .i64 (p 0), .int .i64 (p 1), .int .i64 (p 2), .int .i64 (p 3), .int .i64 (p 4), .int .i64 (p 5), .int .i64 s, .bool c, .int .i64 (t 0), .int .i64 (t 1), .int .i64 (t 2)]), (r2, [.int .i64 (bestV p s 0), .int .i64 (bestV p s 1), .int .i64 (bestV p s 2)]), (r3, [.int .i64 (bestV p s 0), .int .i64 (bestV p s 1), .int .i64 (bestV p s 2)])] [] 32 #[.agg #[.int .i64 (p 0), .int .i64 (p 1), .int .i64 (p 2), .int .i64 (p 3), .int .i64 (p 4), .int .i64 (p 5)], .int .i64 s, .bool c, .agg #[.int .i64 (t 0), .int .i64 (t 1), .int .i64 (t 2)]] (.tuple #[.agg #[.int .i64 (ofV p s c t 0), .int .i64 (ofV p s c t 1), .int .i64 (ofV p s c t 2)], .int .i64 (ofE p s c t)]) ∧ (∀ r4 : Nat, (r4 = r4 ∧ (r4 = r4 ∧ (r4 = r4 ∧ (True)))) ∧ r1 = r1 ∧ r1 = r1 ∧ r1 = r1 ∧ r1 = r1 ∧ CallV Tryd.prog w [(r1, [.int .i64 (p 0), .int .i64 (p 1), .int .i64 (p 2), .int .i64 (p 3), .int .i64 (p 4), .int .i64 (p 5), .int .i64 s, .bool c, .int .i64 (t 0), .int .i64 (t 1), .int .i64 (t 2)]), (r2, [.int .i64 (bestV p s 0), .int .i64 (bestV p s 1), .int .i64 (bestV p s 2)]), (r3, [.int .i64 (bestV p s 0), .int .i64 (bestV p s 1), .int .i64 (bestV p s 2)]), (r4, [.int .i64 (ofV p s c t 0), .int .i64 (ofV p s c t 1), .int .i64 (ofV p s c t 2)])] [] 33 #[.agg #[.int .i64 (p 0), .int .i64 (p 1), .int .i64 (p 2), .int .i64 (p 3), .int .i64 (p 4), .int .i64 (p 5)], .int .i64 s, .bool c, .agg #[.int .i64 (t 0), .int .i64 (t 1), .int .i64 (t 2)]] (.tuple #[.agg #[.int .i64 (ofV p s c t 0), .int .i64 (ofV p s c t 1), .int .i64 (ofV p s c t 2)], .int .i64 (ofE p s c t)]) ∧ (∀ r5 : Nat, (r5 = r5 ∧ (r5 = r5 ∧ (r5 = r5 ∧ (True)))) ∧ CallV Tryd.prog w [(r1, [.int .i64 (p 0), .int .i64 (p 1), .int .i64 (p 2), .int .i64 (p 3), .int .i64 (p 4), .int .i64 (p 5), .int .i64 s, .bool c, .int .i64 (t 0), .int .i64 (t 1), .int .i64 (t 2)]), (r2, [.int .i64 (bestV p s 0), .int .i64 (bestV p s 1), .int .i64 (bestV p s 2)]), (r3, [.int .i64 (bestV p s 0), .int .i64 (bestV p s 1), .int .i64 (bestV p s 2)]), (r4, [.int .i64 (ofV p s c t 0), .int .i64 (ofV p s c t 1), .int .i64 (ofV p s c t 2)]), (r5, [.int .i64 (ofV p s c t 0), .int .i64 (ofV p s c t 1), .int .i64 (ofV p s c t 2)])] [] 20 #[] (.bool true) ∧ r2 = r2 ∧ r3 = r3 ∧ EqV Tryd.prog 23 (.agg #[.int .i64 (bestV p s 0), .int .i64 (bestV p s 1), .int .i64 (bestV p s 2)]) (.agg #[.int .i64 (bestV p s 0), .int .i64 (bestV p s 1), .int .i64 (bestV p s 2)]) true ∧ Value.bool ((bestE p s) == (bestE p s)) = .bool true ∧ r4 = r4 ∧ r5 = r5 ∧ EqV Tryd.prog 23 (.agg #[.int .i64 (ofV p s c t 0), .int .i64 (ofV p s c t 1), .int .i64 (ofV p s c t 2)]) (.agg #[.int .i64 (ofV p s c t 0), .int .i64 (ofV p s c t 1), .int .i64 (ofV p s c t 2)]) true ∧ Value.bool ((ofE p s c t) == (ofE p s c t)) = .bool true ∧ r1 = r1 ∧ r1 = r1 ∧ CallV Tryd.prog w [(r1, [.int .i64 (p 0), .int .i64 (p 1), .int .i64 (p 2), .int .i64 (p 3), .int .i64 (p 4), .int .i64 (p 5), .int .i64 s, .bool c, .int .i64 (t 0), .int .i64 (t 1), .int .i64 (t 2)]), (r2, [.int .i64 (bestV p s 0), .int .i64 (bestV p s 1), .int .i64 (bestV p s 2)]), (r3, [.int .i64 (bestV p s 0), .int .i64 (bestV p s 1), .int .i64 (bestV p s 2)]), (r4, [.int .i64 (ofV p s c t 0), .int .i64 (ofV p s c t 1), .int .i64 (ofV p s c t 2)]), (r5, [.int .i64 (ofV p s c t 0), .int .i64 (ofV p s c t 1), .int .i64 (ofV p s c t 2)])] [] 21 #[.agg #[.int .i64 (t 0), .int .i64 (t 1), .int .i64 (t 2)]] (.bool (mildB t)) ∧ (((decide ((t 0) ≥ 0)) = true → r1 = r1 ∧ (True) ∧ (LeafV R w [(r1, [.int .i64 (p 0), .int .i64 (p 1), .int .i64 (p 2), .int .i64 (p 3), .int .i64 (p 4), .int .i64 (p 5), .int .i64 s, .bool c, .int .i64 (t 0), .int .i64 (t 1), .int .i64 (t 2)]), (r2, [.int .i64 (bestV p s 0), .int .i64 (bestV p s 1), .int .i64 (bestV p s 2)]), (r3, [.int .i64 (bestV p s 0), .int .i64 (bestV p s 1), .int .i64 (bestV p s 2)]), (r4, [.int .i64 (ofV p s c t 0), .int .i64 (ofV p s c t 1), .int .i64 (ofV p s c t 2)]), (r5, [.int .i64 (ofV p s c t 0), .int .i64 (ofV p s c t 1), .int .i64 (ofV p s c t 2)])] [] (.bool ((mildB t) == (decide ((t 0) ≤ 1099511627776)))))) ∧ ((decide ((t 0) ≥ 0)) = false → (True) ∧ (LeafV R w [(r1, [.int .i64 (p 0), .int .i64 (p 1), .int .i64 (p 2), .int .i64 (p 3), .int .i64 (p 4), .int .i64 (p 5), .int .i64 s, .bool c, .int .i64 (t 0), .int .i64 (t 1), .int .i64 (t 2)]), (r2, [.int .i64 (bestV p s 0), .int .i64 (bestV p s 1), .int .i64 (bestV p s 2)]), (r3, [.int .i64 (bestV p s 0), .int .i64 (bestV p s 1), .int .i64 (bestV p s 2)]), (r4, [.int .i64 (ofV p s c t 0), .int .i64 (ofV p s c t 1), .int .i64 (ofV p s c t 2)]), (r5, [.int .i64 (ofV p s c t 0), .int .i64 (ofV p s c t 1), .int .i64 (ofV p s c t 2)])] [] (.bool ((mildB t) == false)))))))))) : Calls Tryd.prog 11 #[.agg #[.int .i64 (p 0), .int .i64 (p 1), .int .i64 (p 2), .int .i64 (p 3), .int .i64 (p 4), .int .i64 (p 5), .int .i64 s, .bool c, .int .i64 (t 0), .int .i64 (t 1), .int .i64 (t 2)]] w R :=
  calls_of_plan (f := 11) (es := []) (c := Tryd.f11.body.getD .skip) (tmps := #[.agg #[.int .i64 (p 0), .int .i64 (p 1), .int .i64 (p 2), .int .i64 (p 3), .int .i64 (p 4), .int .i64 (p 5), .int .i64 s, .bool c, .int .i64 (t 0), .int .i64 (t 1), .int .i64 (t 2)], undef, undef, undef, undef, undef, undef, undef, undef, undef, undef, undef, undef, undef, undef, undef, undef, undef, undef, undef, undef, undef, undef, undef, undef, undef, undef, undef, undef, undef, undef, undef, undef, undef, undef, undef, undef, undef, undef, undef, undef, undef, undef, undef, undef, undef, undef, undef, undef, undef, undef, undef, undef, undef, undef, undef, undef, undef, undef, undef, undef, undef, undef, undef, undef, undef, undef, undef, undef, undef, undef, undef, undef, undef, undef, undef, undef, undef, undef, undef, undef, undef, undef, undef, undef, undef, undef, undef])
    (.s [.c, .c] (.new (fun r1 => .s [.v, .c, .c, .c, .v, .own 0, .v, .own 0, .call (.tuple #[.agg #[.int .i64 (bestV p s 0), .int .i64 (bestV p s 1), .int .i64 (bestV p s 2)], .int .i64 (bestE p s)]), .v, .v, .v] (.new (fun r2 => .s [.put 1, .v, .c, .c, .c, .v, .own 0, .v, .own 0, .call (.tuple #[.agg #[.int .i64 (bestV p s 0), .int .i64 (bestV p s 1), .int .i64 (bestV p s 2)], .int .i64 (bestE p s)]), .v, .v, .v] (.new (fun r3 => .s [.put 2, .v, .c, .c, .c, .v, .own 0, .v, .own 0, .v, .own 0, .v, .own 0, .call (.tuple #[.agg #[.int .i64 (ofV p s c t 0), .int .i64 (ofV p s c t 1), .int .i64 (ofV p s c t 2)], .int .i64 (ofE p s c t)]), .v, .v, .v] (.new (fun r4 => .s [.put 3, .v, .c, .c, .c, .v, .own 0, .v, .own 0, .v, .own 0, .v, .own 0, .call (.tuple #[.agg #[.int .i64 (ofV p s c t 0), .int .i64 (ofV p s c t 1), .int .i64 (ofV p s c t 2)], .int .i64 (ofE p s c t)]), .v, .v, .v] (.new (fun r5 => .s [.put 4, .v, .c, .c, .d [], .at 0 true, .call (.bool true), .at 1 false, .v, .at 2 false, .own 1, .at 3 false, .own 2, .at 4 false, .eq true, .at 5 false, .v, .at 6 false, .v, .at 7 false, .v, .at 8 false, .v, .at 9 false, .v, .setv 60 (.bool true), .at 10 false, .v, .at 11 false, .v, .at 12 false, .own 3, .at 13 false, .own 4, .at 14 false, .eq true, .at 15 false, .v, .at 16 false, .v, .at 17 false, .v, .at 18 false, .v, .at 19 false, .v, .setv 70 (.bool true), .at 20 false, .v, .at 21 false, .v, .at 22 false, .v, .at 23 false, .own 0, .at 25 false, .v, .at 26 false, .v, .at 27 false, .own 0, .at 28 false, .v, .at 24 true, .call (.bool (mildB t)), .at 29 false, .v] (.split 80 (.s [.at 30 false, .v, .at 31 false, .v, .at 32 false, .own 0, .at 33 false, .v, .at 34 false, .v, .at 35 false, .v, .at 36 false, .v, .at 37 false, .v, .c] (.ret [])) (.s [.at 30 false, .u, .at 31 false, .u, .at 32 false, .u, .at 33 false, .u, .at 34 false, .v, .at 35 false, .v, .at 36 false, .v, .at 37 false, .v, .c] (.ret []))))))))))))))
    (by kernel_rfl) hG hE Tryd.func11 (by kernel_rfl) (by kernel_rfl) (Eq.mpr (by kernel_rfl) h)
set_option maxRecDepth 1000000 in
set_option maxHeartbeats 8000000 in
theorem law_GainPlays (p : Nat → Int) (s : Int) (c : Bool) (t : Nat → Int) (hp6 : ∀ i, I64 (p i)) (hs : I64 s) (_hc : True) (ht : ∀ i, I64 (t i)) (w : World) (hg : GN w) (hl : GL w) : Calls Tryd.prog 11 #[.agg #[.int .i64 (p 0), .int .i64 (p 1), .int .i64 (p 2), .int .i64 (p 3), .int .i64 (p 4), .int .i64 (p 5), .int .i64 s, .bool c, .int .i64 (t 0), .int .i64 (t 1), .int .i64 (t 2)]] w (fun e w' => e = .returned (.bool true) ∧ Below w.heap.size w w') := by
  refine law_GainPlays_plan p s c t w _ (St.refl w) Ex.nil ?_
  intro r1
  refine ⟨rfl, rfl, (CallV.be fun W hS => gain_Best p s hp6 hs W (hg.below hS.bl) (hl.below hS.bl)), ?_⟩
  intro r2
  refine ⟨⟨rfl, rfl, rfl, trivial⟩, rfl, rfl, (CallV.be fun W hS => ref11_Best p s hp6 hs W), ?_⟩
  intro r3
  refine ⟨⟨rfl, rfl, rfl, trivial⟩, rfl, rfl, rfl, rfl, (CallV.be fun W hS => gain_Of p s c t hp6 hs trivial ht W (hg.below hS.bl) (hl.below hS.bl)), ?_⟩
  intro r4
  refine ⟨⟨rfl, rfl, rfl, trivial⟩, rfl, rfl, rfl, rfl, (CallV.be fun W hS => ref11_Of p s c t hp6 hs trivial ht W), ?_⟩
  intro r5
  refine ⟨⟨rfl, rfl, rfl, trivial⟩, (CallV.be fun W hS => law11_fixed W (hg.below hS.bl) (hl.below hS.bl)), rfl, rfl, (fun W => (eqVec _ _ _ _ _ _ W).trans (by simp)), congrArg Value.bool (beq_self_eq_true _), rfl, rfl, (fun W => (eqVec _ _ _ _ _ _ W).trans (by simp)), congrArg Value.bool (beq_self_eq_true _), rfl, rfl, (CallV.be fun W hS => gain_Mild t W), ?_⟩
  refine ⟨?_, ?_⟩
  · intro h6
    have h6p : (t 0) ≥ 0 := by simpa using h6
    refine ⟨rfl, trivial, ?_⟩
    exact fun W hS => ⟨congrArg (fun q => Ending.returned (Value.bool q)) (by unfold mildB; simp only [h6, Bool.true_and, Bool.false_and, beq_self_eq_true]), hS.bl⟩
  · intro h7
    have h7p : ¬ ((t 0) ≥ 0) := by simpa using h7
    refine ⟨trivial, ?_⟩
    exact fun W hS => ⟨congrArg (fun q => Ending.returned (Value.bool q)) (by unfold mildB; simp only [h7, Bool.true_and, Bool.false_and, beq_self_eq_true]), hS.bl⟩

end Go.Proofs.YtpdggnocnaaanaaDoor
