/- Walks of layer 12 (joseph) and of its reference, by plans: Doubt; the laws JosephState and JosephDoubt. -/
import Derived.Test.YtfbhcaocfajjpaaDoorJa
import Derived.Test.YtfbhcaocfajjpaaDoorSg
import Derived.Test.YtfbhcaocfajjpaaDoorSc
namespace Go.Proofs.YtfbhcaocfajjpaaDoor
open Go.RowKit
set_option linter.unusedSimpArgs false
set_option linter.unusedVariables false
def crZ (a b c d : Int) : Int := evP (a * b + c * d) (pow2 40)
def smV (x c s : Int) : Int := if fitB (mulZ x c) then toV (mulZ (mulZ x c) s) else 0
def smE (x c s : Int) : Int := if fitB (mulZ x c) then toE (mulZ (mulZ x c) s) else 3
def saV (e t u : Int) : Int := if fitB (e - t) then toV (e - t + u) else 0
def saE (e t u : Int) : Int := if fitB (e - t) then toE (e - t + u) else 3
def jo (p k : Nat → Int) (s : Int) (i j m : Nat) : Bool := fitB (crZ (k i) (p j) (k j) (p i)) && (smE (k i) (k j) s == 0 && saE (p m) (crZ (k i) (p j) (k j) (p i)) (mulZ (mulZ (k i) (k j)) s) == 0)
def jv (p k : Nat → Int) (s : Int) (i j m : Nat) : Int := p m - crZ (k i) (p j) (k j) (p i) + mulZ (mulZ (k i) (k j)) s
def jdB (p k : Nat → Int) (s : Int) : Bool := fits6 p && (fits3 k && fitB s)
def jdO (p k : Nat → Int) (s : Int) : Bool := jo p k s 0 0 0 && (jo p k s 0 1 1 && (jo p k s 0 2 2 && (jo p k s 1 1 3 && (jo p k s 1 2 4 && jo p k s 2 2 5))))
def jdE (p k : Nat → Int) (s : Int) : Int := if jdB p k s then (if jdO p k s then 0 else 3) else 1
def jdV (p k : Nat → Int) (s : Int) (n : Nat) : Int := if jdB p k s && jdO p k s then v6 (jv p k s 0 0 0) (jv p k s 0 1 1) (jv p k s 0 2 2) (jv p k s 1 1 3) (jv p k s 1 2 4) (jv p k s 2 2 5) n else 0
theorem jd_1 {p k : Nat → Int} {s : Int} (h : jdB p k s = false) : jdE p k s = 1 ∧ ∀ i, jdV p k s i = 0 := ⟨by unfold jdE; rw [h]; rfl, fun i => by unfold jdV; rw [h]; rfl⟩
theorem jd_2 {p k : Nat → Int} {s : Int} (h : jdB p k s = true) (h2 : jdO p k s = false) : jdE p k s = 3 ∧ ∀ i, jdV p k s i = 0 := ⟨by unfold jdE; rw [h, h2]; rfl, fun i => by unfold jdV; rw [h, h2]; rfl⟩
theorem jd_3 {p k : Nat → Int} {s : Int} (h : jdB p k s = true) (h2 : jdO p k s = true) : jdE p k s = 0 ∧ ∀ i, jdV p k s i = v6 (jv p k s 0 0 0) (jv p k s 0 1 1) (jv p k s 0 2 2) (jv p k s 1 1 3) (jv p k s 1 2 4) (jv p k s 2 2 5) i := ⟨by unfold jdE; rw [h, h2]; rfl, fun i => by unfold jdV; rw [h, h2]; rfl⟩
theorem jt_ok {z : Int} (h : toE z = 0) : toV z = z ∧ fitB z = true := by
  cases q : fitB z
  · rw [(to_not q).2] at h; cases h
  · exact ⟨(to_fit q).1, rfl⟩
theorem jt_err {z : Int} (h : ¬ toE z = 0) : toE z = 3 ∧ fitB z = false := by
  cases q : fitB z
  · exact ⟨(to_not q).2, rfl⟩
  · exact absurd (to_fit q).2 h
theorem jb_eq {a b z : Int} (ha : fitB a = true) (hb : fitB b = true) : bothV a b z = toV z ∧ bothE a b z = toE z := both_yes ha hb
theorem sm_ok {x c s : Int} (h : smE x c s = 0) : smV x c s = mulZ (mulZ x c) s ∧ fitB (mulZ x c) = true ∧ fitB (mulZ (mulZ x c) s) = true := by
  unfold smE at h; unfold smV
  cases q : fitB (mulZ x c)
  · rw [q] at h; simp at h
  · rw [q, if_pos rfl] at h; exact ⟨by rw [if_pos rfl]; exact (jt_ok h).1, rfl, (jt_ok h).2⟩
theorem sm_err {x c s : Int} (h : ¬ smE x c s = 0) : smE x c s = 3 := by
  unfold smE at h ⊢
  split
  · rename_i q; rw [if_pos q] at h; exact (jt_err h).1
  · rfl
theorem sa_ok {e t u : Int} (h : saE e t u = 0) : saV e t u = e - t + u ∧ fitB (e - t) = true ∧ fitB (e - t + u) = true := by
  unfold saE at h; unfold saV
  cases q : fitB (e - t)
  · rw [q] at h; simp at h
  · rw [q, if_pos rfl] at h; exact ⟨by rw [if_pos rfl]; exact (jt_ok h).1, rfl, (jt_ok h).2⟩
theorem sa_err {e t u : Int} (h : ¬ saE e t u = 0) : saE e t u = 3 := by
  unfold saE at h ⊢
  split
  · rename_i q; rw [if_pos q] at h; exact (jt_err h).1
  · rfl
theorem jo_yes {p k : Nat → Int} {s : Int} {i j m : Nat} (h : fitB (crZ (k i) (p j) (k j) (p i)) = true) (h2 : smE (k i) (k j) s = 0) (h3 : saE (p m) (crZ (k i) (p j) (k j) (p i)) (mulZ (mulZ (k i) (k j)) s) = 0) : jo p k s i j m = true := by
  unfold jo; rw [h, h2, h3]; rfl
theorem jo_no1 {p k : Nat → Int} {s : Int} {i j m : Nat} (h : fitB (crZ (k i) (p j) (k j) (p i)) = false) : jo p k s i j m = false := by unfold jo; rw [h]; rfl
theorem jo_no2 {p k : Nat → Int} {s : Int} {i j m : Nat} (h : ¬ smE (k i) (k j) s = 0) : jo p k s i j m = false := by
  have e : (smE (k i) (k j) s == 0) = false := by simpa using h
  unfold jo; rw [e]; simp
theorem jo_no3 {p k : Nat → Int} {s : Int} {i j m : Nat} (h : ¬ saE (p m) (crZ (k i) (p j) (k j) (p i)) (mulZ (mulZ (k i) (k j)) s) = 0) : jo p k s i j m = false := by
  have e : (saE (p m) (crZ (k i) (p j) (k j) (p i)) (mulZ (mulZ (k i) (k j)) s) == 0) = false := by simpa using h
  unfold jo; rw [e]; simp
set_option maxRecDepth 1000000 in
set_option maxHeartbeats 8000000 in
theorem joseph_D1_0_plan (x : Int) (k : Nat → Int) (kb jb : Nat) (w : World) (R : Ending → World → Prop) (hG : St w w [] []) (hE : Ex w [(kb, [.int .i64 (k 0), .int .i64 (k 1), .int .i64 (k 2)]), (jb, [.int .i64 0])])
    (h : jb = jb ∧ kb = kb ∧ CallV Tryd.prog w [] [] 64 #[.int .i64 x, .int .i64 (k 0)] (.tuple #[.int .i64 (bothV x (k 0) (mulZ x (k 0))), .int .i64 (bothE x (k 0) (mulZ x (k 0)))]) ∧ (True) ∧ (LeafV R w [] [] (.tuple #[.int .i64 (bothV x (k 0) (mulZ x (k 0))), .int .i64 (bothE x (k 0) (mulZ x (k 0)))]))) : Calls Tryd.prog 63 #[.int .i64 x, .pointer (some ⟨kb, 0, none⟩), .pointer (some ⟨jb, 0, none⟩)] w R :=
  calls_of_plan (f := 63) (es := [(kb, [.int .i64 (k 0), .int .i64 (k 1), .int .i64 (k 2)]), (jb, [.int .i64 0])]) (c := Tryd.f63.body.getD .skip) (tmps := #[.int .i64 x, .pointer (some ⟨kb, 0, none⟩), .pointer (some ⟨jb, 0, none⟩), undef, undef, undef, undef, undef, undef, undef, undef, undef, undef])
    (.s [.c, .c, .v, .v, .c, .c, .c, .v, .ext 1, .v, .ext 0, .call (.tuple #[.int .i64 (bothV x (k 0) (mulZ x (k 0))), .int .i64 (bothE x (k 0) (mulZ x (k 0)))]), .v, .v, .v, .v, .c] (.ret []))
    (by kernel_rfl) hG hE Tryd.func63 (by kernel_rfl) (by kernel_rfl) (Eq.mpr (by kernel_rfl) h)
set_option maxRecDepth 1000000 in
set_option maxHeartbeats 8000000 in
theorem joseph_D1_0 (x : Int) (k : Nat → Int) (kb jb : Nat)  (w : World) (hg : GN w) (ckb0 : w.cell? ⟨kb, 0, none⟩ = some (.int .i64 (k 0))) (ckb1 : w.cell? ⟨kb, 1, none⟩ = some (.int .i64 (k 1))) (ckb2 : w.cell? ⟨kb, 2, none⟩ = some (.int .i64 (k 2))) (cjb0 : w.cell? ⟨jb, 0, none⟩ = some (.int .i64 0)) : Calls Tryd.prog 63 #[.int .i64 x, .pointer (some ⟨kb, 0, none⟩), .pointer (some ⟨jb, 0, none⟩)] w (fun e w' => e = .returned (.tuple #[.int .i64 (bothV x (k 0) (mulZ x (k 0))), .int .i64 (bothE x (k 0) (mulZ x (k 0)))]) ∧ Below w.heap.size w w') := by
  refine joseph_D1_0_plan x k kb jb w _ (St.refl w) (Ex.cons (exOf (by exact ⟨ckb0, ckb1, ckb2, trivial⟩)) (Ex.cons (exOf (by exact ⟨cjb0, trivial⟩)) (Ex.nil))) ?_
  refine ⟨rfl, rfl, (CallV.be fun W hS => fix_Mul x (k 0)  W (hg.below hS.bl)), trivial, ?_⟩
  exact fun W hS => ⟨rfl, hS.bl⟩
set_option maxRecDepth 1000000 in
set_option maxHeartbeats 8000000 in
theorem joseph_D1_1_plan (x : Int) (k : Nat → Int) (kb jb : Nat) (w : World) (R : Ending → World → Prop) (hG : St w w [] []) (hE : Ex w [(kb, [.int .i64 (k 0), .int .i64 (k 1), .int .i64 (k 2)]), (jb, [.int .i64 1])])
    (h : jb = jb ∧ kb = kb ∧ CallV Tryd.prog w [] [] 64 #[.int .i64 x, .int .i64 (k 1)] (.tuple #[.int .i64 (bothV x (k 1) (mulZ x (k 1))), .int .i64 (bothE x (k 1) (mulZ x (k 1)))]) ∧ (True) ∧ (LeafV R w [] [] (.tuple #[.int .i64 (bothV x (k 1) (mulZ x (k 1))), .int .i64 (bothE x (k 1) (mulZ x (k 1)))]))) : Calls Tryd.prog 63 #[.int .i64 x, .pointer (some ⟨kb, 0, none⟩), .pointer (some ⟨jb, 0, none⟩)] w R :=
  calls_of_plan (f := 63) (es := [(kb, [.int .i64 (k 0), .int .i64 (k 1), .int .i64 (k 2)]), (jb, [.int .i64 1])]) (c := Tryd.f63.body.getD .skip) (tmps := #[.int .i64 x, .pointer (some ⟨kb, 0, none⟩), .pointer (some ⟨jb, 0, none⟩), undef, undef, undef, undef, undef, undef, undef, undef, undef, undef])
    (.s [.c, .c, .v, .v, .c, .c, .c, .v, .ext 1, .v, .ext 0, .call (.tuple #[.int .i64 (bothV x (k 1) (mulZ x (k 1))), .int .i64 (bothE x (k 1) (mulZ x (k 1)))]), .v, .v, .v, .v, .c] (.ret []))
    (by kernel_rfl) hG hE Tryd.func63 (by kernel_rfl) (by kernel_rfl) (Eq.mpr (by kernel_rfl) h)
set_option maxRecDepth 1000000 in
set_option maxHeartbeats 8000000 in
theorem joseph_D1_1 (x : Int) (k : Nat → Int) (kb jb : Nat)  (w : World) (hg : GN w) (ckb0 : w.cell? ⟨kb, 0, none⟩ = some (.int .i64 (k 0))) (ckb1 : w.cell? ⟨kb, 1, none⟩ = some (.int .i64 (k 1))) (ckb2 : w.cell? ⟨kb, 2, none⟩ = some (.int .i64 (k 2))) (cjb0 : w.cell? ⟨jb, 0, none⟩ = some (.int .i64 1)) : Calls Tryd.prog 63 #[.int .i64 x, .pointer (some ⟨kb, 0, none⟩), .pointer (some ⟨jb, 0, none⟩)] w (fun e w' => e = .returned (.tuple #[.int .i64 (bothV x (k 1) (mulZ x (k 1))), .int .i64 (bothE x (k 1) (mulZ x (k 1)))]) ∧ Below w.heap.size w w') := by
  refine joseph_D1_1_plan x k kb jb w _ (St.refl w) (Ex.cons (exOf (by exact ⟨ckb0, ckb1, ckb2, trivial⟩)) (Ex.cons (exOf (by exact ⟨cjb0, trivial⟩)) (Ex.nil))) ?_
  refine ⟨rfl, rfl, (CallV.be fun W hS => fix_Mul x (k 1)  W (hg.below hS.bl)), trivial, ?_⟩
  exact fun W hS => ⟨rfl, hS.bl⟩
set_option maxRecDepth 1000000 in
set_option maxHeartbeats 8000000 in
theorem joseph_D1_2_plan (x : Int) (k : Nat → Int) (kb jb : Nat) (w : World) (R : Ending → World → Prop) (hG : St w w [] []) (hE : Ex w [(kb, [.int .i64 (k 0), .int .i64 (k 1), .int .i64 (k 2)]), (jb, [.int .i64 2])])
    (h : jb = jb ∧ kb = kb ∧ CallV Tryd.prog w [] [] 64 #[.int .i64 x, .int .i64 (k 2)] (.tuple #[.int .i64 (bothV x (k 2) (mulZ x (k 2))), .int .i64 (bothE x (k 2) (mulZ x (k 2)))]) ∧ (True) ∧ (LeafV R w [] [] (.tuple #[.int .i64 (bothV x (k 2) (mulZ x (k 2))), .int .i64 (bothE x (k 2) (mulZ x (k 2)))]))) : Calls Tryd.prog 63 #[.int .i64 x, .pointer (some ⟨kb, 0, none⟩), .pointer (some ⟨jb, 0, none⟩)] w R :=
  calls_of_plan (f := 63) (es := [(kb, [.int .i64 (k 0), .int .i64 (k 1), .int .i64 (k 2)]), (jb, [.int .i64 2])]) (c := Tryd.f63.body.getD .skip) (tmps := #[.int .i64 x, .pointer (some ⟨kb, 0, none⟩), .pointer (some ⟨jb, 0, none⟩), undef, undef, undef, undef, undef, undef, undef, undef, undef, undef])
    (.s [.c, .c, .v, .v, .c, .c, .c, .v, .ext 1, .v, .ext 0, .call (.tuple #[.int .i64 (bothV x (k 2) (mulZ x (k 2))), .int .i64 (bothE x (k 2) (mulZ x (k 2)))]), .v, .v, .v, .v, .c] (.ret []))
    (by kernel_rfl) hG hE Tryd.func63 (by kernel_rfl) (by kernel_rfl) (Eq.mpr (by kernel_rfl) h)
set_option maxRecDepth 1000000 in
set_option maxHeartbeats 8000000 in
theorem joseph_D1_2 (x : Int) (k : Nat → Int) (kb jb : Nat)  (w : World) (hg : GN w) (ckb0 : w.cell? ⟨kb, 0, none⟩ = some (.int .i64 (k 0))) (ckb1 : w.cell? ⟨kb, 1, none⟩ = some (.int .i64 (k 1))) (ckb2 : w.cell? ⟨kb, 2, none⟩ = some (.int .i64 (k 2))) (cjb0 : w.cell? ⟨jb, 0, none⟩ = some (.int .i64 2)) : Calls Tryd.prog 63 #[.int .i64 x, .pointer (some ⟨kb, 0, none⟩), .pointer (some ⟨jb, 0, none⟩)] w (fun e w' => e = .returned (.tuple #[.int .i64 (bothV x (k 2) (mulZ x (k 2))), .int .i64 (bothE x (k 2) (mulZ x (k 2)))]) ∧ Below w.heap.size w w') := by
  refine joseph_D1_2_plan x k kb jb w _ (St.refl w) (Ex.cons (exOf (by exact ⟨ckb0, ckb1, ckb2, trivial⟩)) (Ex.cons (exOf (by exact ⟨cjb0, trivial⟩)) (Ex.nil))) ?_
  refine ⟨rfl, rfl, (CallV.be fun W hS => fix_Mul x (k 2)  W (hg.below hS.bl)), trivial, ?_⟩
  exact fun W hS => ⟨rfl, hS.bl⟩
set_option maxRecDepth 1000000 in
set_option maxHeartbeats 8000000 in
theorem joseph_D2_plan (x s : Int) (sb : Nat) (w : World) (R : Ending → World → Prop) (hG : St w w [] []) (hE : Ex w [(sb, [.int .i64 s])])
    (h : sb = sb ∧ CallV Tryd.prog w [] [] 64 #[.int .i64 x, .int .i64 s] (.tuple #[.int .i64 (bothV x s (mulZ x s)), .int .i64 (bothE x s (mulZ x s))]) ∧ (True) ∧ (LeafV R w [] [] (.tuple #[.int .i64 (bothV x s (mulZ x s)), .int .i64 (bothE x s (mulZ x s))]))) : Calls Tryd.prog 65 #[.int .i64 x, .pointer (some ⟨sb, 0, none⟩)] w R :=
  calls_of_plan (f := 65) (es := [(sb, [.int .i64 s])]) (c := Tryd.f65.body.getD .skip) (tmps := #[.int .i64 x, .pointer (some ⟨sb, 0, none⟩), undef, undef, undef, undef, undef, undef, undef, undef])
    (.s [.c, .c, .v, .v, .c, .c, .c, .v, .ext 0, .call (.tuple #[.int .i64 (bothV x s (mulZ x s)), .int .i64 (bothE x s (mulZ x s))]), .v, .v, .v, .v, .c] (.ret []))
    (by kernel_rfl) hG hE Tryd.func65 (by kernel_rfl) (by kernel_rfl) (Eq.mpr (by kernel_rfl) h)
set_option maxRecDepth 1000000 in
set_option maxHeartbeats 8000000 in
theorem joseph_D2 (x s : Int) (sb : Nat)  (w : World) (hg : GN w) (csb0 : w.cell? ⟨sb, 0, none⟩ = some (.int .i64 s)) : Calls Tryd.prog 65 #[.int .i64 x, .pointer (some ⟨sb, 0, none⟩)] w (fun e w' => e = .returned (.tuple #[.int .i64 (bothV x s (mulZ x s)), .int .i64 (bothE x s (mulZ x s))]) ∧ Below w.heap.size w w') := by
  refine joseph_D2_plan x s sb w _ (St.refl w) (by exact Ex.cons (exOf (by exact ⟨csb0, trivial⟩)) (Ex.nil)) ?_
  refine ⟨rfl, (CallV.be fun W hS => fix_Mul x s  W (hg.below hS.bl)), trivial, ?_⟩
  exact fun W hS => ⟨rfl, hS.bl⟩
set_option maxRecDepth 1000000 in
set_option maxHeartbeats 8000000 in
theorem joseph_D3_plan (x s : Int) (sb : Nat) (w : World) (R : Ending → World → Prop) (hG : St w w [] []) (hE : Ex w [(sb, [.int .i64 s])])
    (h : sb = sb ∧ CallV Tryd.prog w [] [] 68 #[.int .i64 x, .int .i64 s] (.tuple #[.int .i64 (bothV x s (x - s)), .int .i64 (bothE x s (x - s))]) ∧ (True) ∧ (LeafV R w [] [] (.tuple #[.int .i64 (bothV x s (x - s)), .int .i64 (bothE x s (x - s))]))) : Calls Tryd.prog 67 #[.int .i64 x, .pointer (some ⟨sb, 0, none⟩)] w R :=
  calls_of_plan (f := 67) (es := [(sb, [.int .i64 s])]) (c := Tryd.f67.body.getD .skip) (tmps := #[.int .i64 x, .pointer (some ⟨sb, 0, none⟩), undef, undef, undef, undef, undef, undef, undef, undef])
    (.s [.c, .c, .v, .v, .c, .c, .c, .v, .ext 0, .call (.tuple #[.int .i64 (bothV x s (x - s)), .int .i64 (bothE x s (x - s))]), .v, .v, .v, .v, .c] (.ret []))
    (by kernel_rfl) hG hE Tryd.func67 (by kernel_rfl) (by kernel_rfl) (Eq.mpr (by kernel_rfl) h)
set_option maxRecDepth 1000000 in
set_option maxHeartbeats 8000000 in
theorem joseph_D3 (x s : Int) (sb : Nat)  (w : World) (csb0 : w.cell? ⟨sb, 0, none⟩ = some (.int .i64 s)) : Calls Tryd.prog 67 #[.int .i64 x, .pointer (some ⟨sb, 0, none⟩)] w (fun e w' => e = .returned (.tuple #[.int .i64 (bothV x s (x - s)), .int .i64 (bothE x s (x - s))]) ∧ Below w.heap.size w w') := by
  refine joseph_D3_plan x s sb w _ (St.refl w) (by exact Ex.cons (exOf (by exact ⟨csb0, trivial⟩)) (Ex.nil)) ?_
  refine ⟨rfl, (CallV.be fun W hS => fix_Sub x s  W ), trivial, ?_⟩
  exact fun W hS => ⟨rfl, hS.bl⟩
set_option maxRecDepth 1000000 in
set_option maxHeartbeats 8000000 in
theorem joseph_D4_plan (x s : Int) (sb : Nat) (w : World) (R : Ending → World → Prop) (hG : St w w [] []) (hE : Ex w [(sb, [.int .i64 s])])
    (h : sb = sb ∧ CallV Tryd.prog w [] [] 70 #[.int .i64 x, .int .i64 s] (.tuple #[.int .i64 (bothV x s (x + s)), .int .i64 (bothE x s (x + s))]) ∧ (True) ∧ (LeafV R w [] [] (.tuple #[.int .i64 (bothV x s (x + s)), .int .i64 (bothE x s (x + s))]))) : Calls Tryd.prog 69 #[.int .i64 x, .pointer (some ⟨sb, 0, none⟩)] w R :=
  calls_of_plan (f := 69) (es := [(sb, [.int .i64 s])]) (c := Tryd.f69.body.getD .skip) (tmps := #[.int .i64 x, .pointer (some ⟨sb, 0, none⟩), undef, undef, undef, undef, undef, undef, undef, undef])
    (.s [.c, .c, .v, .v, .c, .c, .c, .v, .ext 0, .call (.tuple #[.int .i64 (bothV x s (x + s)), .int .i64 (bothE x s (x + s))]), .v, .v, .v, .v, .c] (.ret []))
    (by kernel_rfl) hG hE Tryd.func69 (by kernel_rfl) (by kernel_rfl) (Eq.mpr (by kernel_rfl) h)
set_option maxRecDepth 1000000 in
set_option maxHeartbeats 8000000 in
theorem joseph_D4 (x s : Int) (sb : Nat)  (w : World) (csb0 : w.cell? ⟨sb, 0, none⟩ = some (.int .i64 s)) : Calls Tryd.prog 69 #[.int .i64 x, .pointer (some ⟨sb, 0, none⟩)] w (fun e w' => e = .returned (.tuple #[.int .i64 (bothV x s (x + s)), .int .i64 (bothE x s (x + s))]) ∧ Below w.heap.size w w') := by
  refine joseph_D4_plan x s sb w _ (St.refl w) (by exact Ex.cons (exOf (by exact ⟨csb0, trivial⟩)) (Ex.nil)) ?_
  refine ⟨rfl, (CallV.be fun W hS => fix_Add x s  W ), trivial, ?_⟩
  exact fun W hS => ⟨rfl, hS.bl⟩
set_option maxRecDepth 1000000 in
set_option maxHeartbeats 8000000 in
theorem joseph_stepsM_0_plan (x s : Int) (k : Nat → Int) (b kb jb sb : Nat) (w : World) (R : Ending → World → Prop) (hG : St w w [] []) (hE : Ex w [(b, [.func (.func 63) #[] #[.pointer (some ⟨kb, 0, none⟩), .pointer (some ⟨jb, 0, none⟩)], .func (.func 65) #[] #[.pointer (some ⟨sb, 0, none⟩)]])])
    (h : b = b ∧ CallV Tryd.prog w [] [] 63 #[.int .i64 x, .pointer (some ⟨kb, 0, none⟩), .pointer (some ⟨jb, 0, none⟩)] (.tuple #[.int .i64 (bothV x (k 0) (mulZ x (k 0))), .int .i64 (bothE x (k 0) (mulZ x (k 0)))]) ∧ ((((bothE x (k 0) (mulZ x (k 0))) != 0) = true → (True) ∧ (LeafV R w [] [] (.tuple #[.int .i64 0, .int .i64 (bothE x (k 0) (mulZ x (k 0)))]))) ∧ (((bothE x (k 0) (mulZ x (k 0))) != 0) = false → b = b ∧ CallV Tryd.prog w [] [] 65 #[.int .i64 (bothV x (k 0) (mulZ x (k 0))), .pointer (some ⟨sb, 0, none⟩)] (.tuple #[.int .i64 (bothV (bothV x (k 0) (mulZ x (k 0))) s (mulZ (bothV x (k 0) (mulZ x (k 0))) s)), .int .i64 (bothE (bothV x (k 0) (mulZ x (k 0))) s (mulZ (bothV x (k 0) (mulZ x (k 0))) s))]) ∧ ((((bothE (bothV x (k 0) (mulZ x (k 0))) s (mulZ (bothV x (k 0) (mulZ x (k 0))) s)) != 0) = true → (True) ∧ (LeafV R w [] [] (.tuple #[.int .i64 0, .int .i64 (bothE (bothV x (k 0) (mulZ x (k 0))) s (mulZ (bothV x (k 0) (mulZ x (k 0))) s))]))) ∧ (((bothE (bothV x (k 0) (mulZ x (k 0))) s (mulZ (bothV x (k 0) (mulZ x (k 0))) s)) != 0) = false → (True) ∧ (LeafV R w [] [] (.tuple #[.int .i64 (bothV (bothV x (k 0) (mulZ x (k 0))) s (mulZ (bothV x (k 0) (mulZ x (k 0))) s)), .int .i64 0]))))))) : Calls Tryd.prog 62 #[.int .i64 x, .slice (some ⟨b, 0, none⟩) 2 2] w R :=
  calls_of_plan (f := 62) (es := [(b, [.func (.func 63) #[] #[.pointer (some ⟨kb, 0, none⟩), .pointer (some ⟨jb, 0, none⟩)], .func (.func 65) #[] #[.pointer (some ⟨sb, 0, none⟩)]])]) (c := Tryd.f62.body.getD .skip) (tmps := #[.int .i64 x, .slice (some ⟨b, 0, none⟩) 2 2, undef, undef, undef, undef, undef, undef, undef, undef, undef, undef, undef, undef, undef, undef, undef, undef, undef, undef, undef, undef, undef, undef, undef, undef])
    (.s [.c, .c, .v, .v, .c, .c, .c, .c, .v, .v, .v, .c, .c, .c, .c, .c, .v, .c, .c, .c, .c, .c, .c, .c, .c, .v, .ext 0, .v, .c, .c, .c, .v, .c, .c, .c, .v, .v, .call (.tuple #[.int .i64 (bothV x (k 0) (mulZ x (k 0))), .int .i64 (bothE x (k 0) (mulZ x (k 0)))]), .v, .v, .v, .v, .v, .c, .c, .c, .v, .v, .c] (.split 22 (.s [.c, .c, .c, .v, .v, .v, .c] (.ret [])) (.s [.c, .c, .c, .c, .v, .v, .c, .c, .c, .c, .v, .c, .c, .c, .c, .c, .c, .c, .c, .v, .ext 0, .v, .c, .c, .c, .v, .c, .c, .c, .v, .v, .call (.tuple #[.int .i64 (bothV (bothV x (k 0) (mulZ x (k 0))) s (mulZ (bothV x (k 0) (mulZ x (k 0))) s)), .int .i64 (bothE (bothV x (k 0) (mulZ x (k 0))) s (mulZ (bothV x (k 0) (mulZ x (k 0))) s))]), .v, .v, .v, .v, .v, .c, .c, .c, .v, .v, .c] (.split 22 (.s [.c, .c, .c, .v, .v, .v, .c] (.ret [])) (.s [.c, .c, .c, .c, .v, .v, .c, .c, .c, .c, .v, .c, .c, .c, .c, .c, .c, .v, .v, .v, .c] (.ret []))))))
    (by kernel_rfl) hG hE Tryd.func62 (by kernel_rfl) (by kernel_rfl) (Eq.mpr (by kernel_rfl) h)
set_option maxRecDepth 1000000 in
set_option maxHeartbeats 8000000 in
theorem joseph_stepsM_0 (x s : Int) (k : Nat → Int) (b kb jb sb : Nat) (fx : fitB x = true) (fk : fitB (k 0) = true) (fs : fitB s = true) (w : World) (hg : GN w) (cb0 : w.cell? ⟨b, 0, none⟩ = some (.func (.func 63) #[] #[.pointer (some ⟨kb, 0, none⟩), .pointer (some ⟨jb, 0, none⟩)])) (cb1 : w.cell? ⟨b, 1, none⟩ = some (.func (.func 65) #[] #[.pointer (some ⟨sb, 0, none⟩)])) (ckb0 : w.cell? ⟨kb, 0, none⟩ = some (.int .i64 (k 0))) (ckb1 : w.cell? ⟨kb, 1, none⟩ = some (.int .i64 (k 1))) (ckb2 : w.cell? ⟨kb, 2, none⟩ = some (.int .i64 (k 2))) (cjb0 : w.cell? ⟨jb, 0, none⟩ = some (.int .i64 0)) (csb0 : w.cell? ⟨sb, 0, none⟩ = some (.int .i64 s)) : Calls Tryd.prog 62 #[.int .i64 x, .slice (some ⟨b, 0, none⟩) 2 2] w (fun e w' => e = .returned (.tuple #[.int .i64 (smV x (k 0) s), .int .i64 (smE x (k 0) s)]) ∧ Below w.heap.size w w') := by
  refine joseph_stepsM_0_plan x s k b kb jb sb w _ (St.refl w) (by exact Ex.cons (exOf (by exact ⟨cb0, cb1, trivial⟩)) (Ex.nil)) ?_
  refine ⟨rfl, (CallV.be fun W hS => joseph_D1_0 x k kb jb W (hg.below hS.bl) (cell_bl hS.bl ckb0) (cell_bl hS.bl ckb1) (cell_bl hS.bl ckb2) (cell_bl hS.bl cjb0)), ?_⟩
  refine ⟨?_, ?_⟩
  · intro h1
    have h1p : ¬ ((bothE x (k 0) (mulZ x (k 0))) = 0) := by simpa using h1
    have M := jb_eq (z := mulZ x (k 0)) fx fk
    have M2 := jt_err (z := mulZ x (k 0)) (by rw [← M.2]; exact h1p)
    refine ⟨trivial, ?_⟩
    exact fun W hS => ⟨by unfold smV smE; rw [M2.2, M.2, M2.1]; rfl, hS.bl⟩
  · intro h2
    have h2p : (bothE x (k 0) (mulZ x (k 0))) = 0 := by simpa using h2
    have M := jb_eq (z := mulZ x (k 0)) fx fk
    have M2 := jt_ok (z := mulZ x (k 0)) (by rw [← M.2]; exact h2p)
    refine ⟨rfl, (CallV.be fun W hS => joseph_D2 (bothV x (k 0) (mulZ x (k 0))) s sb W (hg.below hS.bl) (cell_bl hS.bl csb0)), ?_⟩
    refine ⟨?_, ?_⟩
    · intro h3
      have h3p : ¬ ((bothE (bothV x (k 0) (mulZ x (k 0))) s (mulZ (bothV x (k 0) (mulZ x (k 0))) s)) = 0) := by simpa using h3
      refine ⟨trivial, ?_⟩
      have V1 : bothV x (k 0) (mulZ x (k 0)) = mulZ x (k 0) := M.1.trans M2.1
      have N := jb_eq (z := mulZ (mulZ x (k 0)) s) M2.2 fs
      have q := h3p
      rw [V1, N.2] at q
      have N2 := jt_err q
      exact fun W hS => ⟨by unfold smV smE; rw [if_pos M2.2, if_pos M2.2, V1, N.2, (to_not N2.2).1], hS.bl⟩
    · intro h4
      have h4p : (bothE (bothV x (k 0) (mulZ x (k 0))) s (mulZ (bothV x (k 0) (mulZ x (k 0))) s)) = 0 := by simpa using h4
      refine ⟨trivial, ?_⟩
      have V1 : bothV x (k 0) (mulZ x (k 0)) = mulZ x (k 0) := M.1.trans M2.1
      have N := jb_eq (z := mulZ (mulZ x (k 0)) s) M2.2 fs
      have q := h4p
      rw [V1, N.2] at q
      have N2 := jt_ok q
      exact fun W hS => ⟨by unfold smV smE; rw [if_pos M2.2, if_pos M2.2, V1, N.1, q], hS.bl⟩
set_option maxRecDepth 1000000 in
set_option maxHeartbeats 8000000 in
theorem joseph_stepsM_1_plan (x s : Int) (k : Nat → Int) (b kb jb sb : Nat) (w : World) (R : Ending → World → Prop) (hG : St w w [] []) (hE : Ex w [(b, [.func (.func 63) #[] #[.pointer (some ⟨kb, 0, none⟩), .pointer (some ⟨jb, 0, none⟩)], .func (.func 65) #[] #[.pointer (some ⟨sb, 0, none⟩)]])])
    (h : b = b ∧ CallV Tryd.prog w [] [] 63 #[.int .i64 x, .pointer (some ⟨kb, 0, none⟩), .pointer (some ⟨jb, 0, none⟩)] (.tuple #[.int .i64 (bothV x (k 1) (mulZ x (k 1))), .int .i64 (bothE x (k 1) (mulZ x (k 1)))]) ∧ ((((bothE x (k 1) (mulZ x (k 1))) != 0) = true → (True) ∧ (LeafV R w [] [] (.tuple #[.int .i64 0, .int .i64 (bothE x (k 1) (mulZ x (k 1)))]))) ∧ (((bothE x (k 1) (mulZ x (k 1))) != 0) = false → b = b ∧ CallV Tryd.prog w [] [] 65 #[.int .i64 (bothV x (k 1) (mulZ x (k 1))), .pointer (some ⟨sb, 0, none⟩)] (.tuple #[.int .i64 (bothV (bothV x (k 1) (mulZ x (k 1))) s (mulZ (bothV x (k 1) (mulZ x (k 1))) s)), .int .i64 (bothE (bothV x (k 1) (mulZ x (k 1))) s (mulZ (bothV x (k 1) (mulZ x (k 1))) s))]) ∧ ((((bothE (bothV x (k 1) (mulZ x (k 1))) s (mulZ (bothV x (k 1) (mulZ x (k 1))) s)) != 0) = true → (True) ∧ (LeafV R w [] [] (.tuple #[.int .i64 0, .int .i64 (bothE (bothV x (k 1) (mulZ x (k 1))) s (mulZ (bothV x (k 1) (mulZ x (k 1))) s))]))) ∧ (((bothE (bothV x (k 1) (mulZ x (k 1))) s (mulZ (bothV x (k 1) (mulZ x (k 1))) s)) != 0) = false → (True) ∧ (LeafV R w [] [] (.tuple #[.int .i64 (bothV (bothV x (k 1) (mulZ x (k 1))) s (mulZ (bothV x (k 1) (mulZ x (k 1))) s)), .int .i64 0]))))))) : Calls Tryd.prog 62 #[.int .i64 x, .slice (some ⟨b, 0, none⟩) 2 2] w R :=
  calls_of_plan (f := 62) (es := [(b, [.func (.func 63) #[] #[.pointer (some ⟨kb, 0, none⟩), .pointer (some ⟨jb, 0, none⟩)], .func (.func 65) #[] #[.pointer (some ⟨sb, 0, none⟩)]])]) (c := Tryd.f62.body.getD .skip) (tmps := #[.int .i64 x, .slice (some ⟨b, 0, none⟩) 2 2, undef, undef, undef, undef, undef, undef, undef, undef, undef, undef, undef, undef, undef, undef, undef, undef, undef, undef, undef, undef, undef, undef, undef, undef])
    (.s [.c, .c, .v, .v, .c, .c, .c, .c, .v, .v, .v, .c, .c, .c, .c, .c, .v, .c, .c, .c, .c, .c, .c, .c, .c, .v, .ext 0, .v, .c, .c, .c, .v, .c, .c, .c, .v, .v, .call (.tuple #[.int .i64 (bothV x (k 1) (mulZ x (k 1))), .int .i64 (bothE x (k 1) (mulZ x (k 1)))]), .v, .v, .v, .v, .v, .c, .c, .c, .v, .v, .c] (.split 22 (.s [.c, .c, .c, .v, .v, .v, .c] (.ret [])) (.s [.c, .c, .c, .c, .v, .v, .c, .c, .c, .c, .v, .c, .c, .c, .c, .c, .c, .c, .c, .v, .ext 0, .v, .c, .c, .c, .v, .c, .c, .c, .v, .v, .call (.tuple #[.int .i64 (bothV (bothV x (k 1) (mulZ x (k 1))) s (mulZ (bothV x (k 1) (mulZ x (k 1))) s)), .int .i64 (bothE (bothV x (k 1) (mulZ x (k 1))) s (mulZ (bothV x (k 1) (mulZ x (k 1))) s))]), .v, .v, .v, .v, .v, .c, .c, .c, .v, .v, .c] (.split 22 (.s [.c, .c, .c, .v, .v, .v, .c] (.ret [])) (.s [.c, .c, .c, .c, .v, .v, .c, .c, .c, .c, .v, .c, .c, .c, .c, .c, .c, .v, .v, .v, .c] (.ret []))))))
    (by kernel_rfl) hG hE Tryd.func62 (by kernel_rfl) (by kernel_rfl) (Eq.mpr (by kernel_rfl) h)
set_option maxRecDepth 1000000 in
set_option maxHeartbeats 8000000 in
theorem joseph_stepsM_1 (x s : Int) (k : Nat → Int) (b kb jb sb : Nat) (fx : fitB x = true) (fk : fitB (k 1) = true) (fs : fitB s = true) (w : World) (hg : GN w) (cb0 : w.cell? ⟨b, 0, none⟩ = some (.func (.func 63) #[] #[.pointer (some ⟨kb, 0, none⟩), .pointer (some ⟨jb, 0, none⟩)])) (cb1 : w.cell? ⟨b, 1, none⟩ = some (.func (.func 65) #[] #[.pointer (some ⟨sb, 0, none⟩)])) (ckb0 : w.cell? ⟨kb, 0, none⟩ = some (.int .i64 (k 0))) (ckb1 : w.cell? ⟨kb, 1, none⟩ = some (.int .i64 (k 1))) (ckb2 : w.cell? ⟨kb, 2, none⟩ = some (.int .i64 (k 2))) (cjb0 : w.cell? ⟨jb, 0, none⟩ = some (.int .i64 1)) (csb0 : w.cell? ⟨sb, 0, none⟩ = some (.int .i64 s)) : Calls Tryd.prog 62 #[.int .i64 x, .slice (some ⟨b, 0, none⟩) 2 2] w (fun e w' => e = .returned (.tuple #[.int .i64 (smV x (k 1) s), .int .i64 (smE x (k 1) s)]) ∧ Below w.heap.size w w') := by
  refine joseph_stepsM_1_plan x s k b kb jb sb w _ (St.refl w) (by exact Ex.cons (exOf (by exact ⟨cb0, cb1, trivial⟩)) (Ex.nil)) ?_
  refine ⟨rfl, (CallV.be fun W hS => joseph_D1_1 x k kb jb W (hg.below hS.bl) (cell_bl hS.bl ckb0) (cell_bl hS.bl ckb1) (cell_bl hS.bl ckb2) (cell_bl hS.bl cjb0)), ?_⟩
  refine ⟨?_, ?_⟩
  · intro h1
    have h1p : ¬ ((bothE x (k 1) (mulZ x (k 1))) = 0) := by simpa using h1
    have M := jb_eq (z := mulZ x (k 1)) fx fk
    have M2 := jt_err (z := mulZ x (k 1)) (by rw [← M.2]; exact h1p)
    refine ⟨trivial, ?_⟩
    exact fun W hS => ⟨by unfold smV smE; rw [M2.2, M.2, M2.1]; rfl, hS.bl⟩
  · intro h2
    have h2p : (bothE x (k 1) (mulZ x (k 1))) = 0 := by simpa using h2
    have M := jb_eq (z := mulZ x (k 1)) fx fk
    have M2 := jt_ok (z := mulZ x (k 1)) (by rw [← M.2]; exact h2p)
    refine ⟨rfl, (CallV.be fun W hS => joseph_D2 (bothV x (k 1) (mulZ x (k 1))) s sb W (hg.below hS.bl) (cell_bl hS.bl csb0)), ?_⟩
    refine ⟨?_, ?_⟩
    · intro h3
      have h3p : ¬ ((bothE (bothV x (k 1) (mulZ x (k 1))) s (mulZ (bothV x (k 1) (mulZ x (k 1))) s)) = 0) := by simpa using h3
      refine ⟨trivial, ?_⟩
      have V1 : bothV x (k 1) (mulZ x (k 1)) = mulZ x (k 1) := M.1.trans M2.1
      have N := jb_eq (z := mulZ (mulZ x (k 1)) s) M2.2 fs
      have q := h3p
      rw [V1, N.2] at q
      have N2 := jt_err q
      exact fun W hS => ⟨by unfold smV smE; rw [if_pos M2.2, if_pos M2.2, V1, N.2, (to_not N2.2).1], hS.bl⟩
    · intro h4
      have h4p : (bothE (bothV x (k 1) (mulZ x (k 1))) s (mulZ (bothV x (k 1) (mulZ x (k 1))) s)) = 0 := by simpa using h4
      refine ⟨trivial, ?_⟩
      have V1 : bothV x (k 1) (mulZ x (k 1)) = mulZ x (k 1) := M.1.trans M2.1
      have N := jb_eq (z := mulZ (mulZ x (k 1)) s) M2.2 fs
      have q := h4p
      rw [V1, N.2] at q
      have N2 := jt_ok q
      exact fun W hS => ⟨by unfold smV smE; rw [if_pos M2.2, if_pos M2.2, V1, N.1, q], hS.bl⟩
set_option maxRecDepth 1000000 in
set_option maxHeartbeats 8000000 in
theorem joseph_stepsM_2_plan (x s : Int) (k : Nat → Int) (b kb jb sb : Nat) (w : World) (R : Ending → World → Prop) (hG : St w w [] []) (hE : Ex w [(b, [.func (.func 63) #[] #[.pointer (some ⟨kb, 0, none⟩), .pointer (some ⟨jb, 0, none⟩)], .func (.func 65) #[] #[.pointer (some ⟨sb, 0, none⟩)]])])
    (h : b = b ∧ CallV Tryd.prog w [] [] 63 #[.int .i64 x, .pointer (some ⟨kb, 0, none⟩), .pointer (some ⟨jb, 0, none⟩)] (.tuple #[.int .i64 (bothV x (k 2) (mulZ x (k 2))), .int .i64 (bothE x (k 2) (mulZ x (k 2)))]) ∧ ((((bothE x (k 2) (mulZ x (k 2))) != 0) = true → (True) ∧ (LeafV R w [] [] (.tuple #[.int .i64 0, .int .i64 (bothE x (k 2) (mulZ x (k 2)))]))) ∧ (((bothE x (k 2) (mulZ x (k 2))) != 0) = false → b = b ∧ CallV Tryd.prog w [] [] 65 #[.int .i64 (bothV x (k 2) (mulZ x (k 2))), .pointer (some ⟨sb, 0, none⟩)] (.tuple #[.int .i64 (bothV (bothV x (k 2) (mulZ x (k 2))) s (mulZ (bothV x (k 2) (mulZ x (k 2))) s)), .int .i64 (bothE (bothV x (k 2) (mulZ x (k 2))) s (mulZ (bothV x (k 2) (mulZ x (k 2))) s))]) ∧ ((((bothE (bothV x (k 2) (mulZ x (k 2))) s (mulZ (bothV x (k 2) (mulZ x (k 2))) s)) != 0) = true → (True) ∧ (LeafV R w [] [] (.tuple #[.int .i64 0, .int .i64 (bothE (bothV x (k 2) (mulZ x (k 2))) s (mulZ (bothV x (k 2) (mulZ x (k 2))) s))]))) ∧ (((bothE (bothV x (k 2) (mulZ x (k 2))) s (mulZ (bothV x (k 2) (mulZ x (k 2))) s)) != 0) = false → (True) ∧ (LeafV R w [] [] (.tuple #[.int .i64 (bothV (bothV x (k 2) (mulZ x (k 2))) s (mulZ (bothV x (k 2) (mulZ x (k 2))) s)), .int .i64 0]))))))) : Calls Tryd.prog 62 #[.int .i64 x, .slice (some ⟨b, 0, none⟩) 2 2] w R :=
  calls_of_plan (f := 62) (es := [(b, [.func (.func 63) #[] #[.pointer (some ⟨kb, 0, none⟩), .pointer (some ⟨jb, 0, none⟩)], .func (.func 65) #[] #[.pointer (some ⟨sb, 0, none⟩)]])]) (c := Tryd.f62.body.getD .skip) (tmps := #[.int .i64 x, .slice (some ⟨b, 0, none⟩) 2 2, undef, undef, undef, undef, undef, undef, undef, undef, undef, undef, undef, undef, undef, undef, undef, undef, undef, undef, undef, undef, undef, undef, undef, undef])
    (.s [.c, .c, .v, .v, .c, .c, .c, .c, .v, .v, .v, .c, .c, .c, .c, .c, .v, .c, .c, .c, .c, .c, .c, .c, .c, .v, .ext 0, .v, .c, .c, .c, .v, .c, .c, .c, .v, .v, .call (.tuple #[.int .i64 (bothV x (k 2) (mulZ x (k 2))), .int .i64 (bothE x (k 2) (mulZ x (k 2)))]), .v, .v, .v, .v, .v, .c, .c, .c, .v, .v, .c] (.split 22 (.s [.c, .c, .c, .v, .v, .v, .c] (.ret [])) (.s [.c, .c, .c, .c, .v, .v, .c, .c, .c, .c, .v, .c, .c, .c, .c, .c, .c, .c, .c, .v, .ext 0, .v, .c, .c, .c, .v, .c, .c, .c, .v, .v, .call (.tuple #[.int .i64 (bothV (bothV x (k 2) (mulZ x (k 2))) s (mulZ (bothV x (k 2) (mulZ x (k 2))) s)), .int .i64 (bothE (bothV x (k 2) (mulZ x (k 2))) s (mulZ (bothV x (k 2) (mulZ x (k 2))) s))]), .v, .v, .v, .v, .v, .c, .c, .c, .v, .v, .c] (.split 22 (.s [.c, .c, .c, .v, .v, .v, .c] (.ret [])) (.s [.c, .c, .c, .c, .v, .v, .c, .c, .c, .c, .v, .c, .c, .c, .c, .c, .c, .v, .v, .v, .c] (.ret []))))))
    (by kernel_rfl) hG hE Tryd.func62 (by kernel_rfl) (by kernel_rfl) (Eq.mpr (by kernel_rfl) h)
set_option maxRecDepth 1000000 in
set_option maxHeartbeats 8000000 in
theorem joseph_stepsM_2 (x s : Int) (k : Nat → Int) (b kb jb sb : Nat) (fx : fitB x = true) (fk : fitB (k 2) = true) (fs : fitB s = true) (w : World) (hg : GN w) (cb0 : w.cell? ⟨b, 0, none⟩ = some (.func (.func 63) #[] #[.pointer (some ⟨kb, 0, none⟩), .pointer (some ⟨jb, 0, none⟩)])) (cb1 : w.cell? ⟨b, 1, none⟩ = some (.func (.func 65) #[] #[.pointer (some ⟨sb, 0, none⟩)])) (ckb0 : w.cell? ⟨kb, 0, none⟩ = some (.int .i64 (k 0))) (ckb1 : w.cell? ⟨kb, 1, none⟩ = some (.int .i64 (k 1))) (ckb2 : w.cell? ⟨kb, 2, none⟩ = some (.int .i64 (k 2))) (cjb0 : w.cell? ⟨jb, 0, none⟩ = some (.int .i64 2)) (csb0 : w.cell? ⟨sb, 0, none⟩ = some (.int .i64 s)) : Calls Tryd.prog 62 #[.int .i64 x, .slice (some ⟨b, 0, none⟩) 2 2] w (fun e w' => e = .returned (.tuple #[.int .i64 (smV x (k 2) s), .int .i64 (smE x (k 2) s)]) ∧ Below w.heap.size w w') := by
  refine joseph_stepsM_2_plan x s k b kb jb sb w _ (St.refl w) (by exact Ex.cons (exOf (by exact ⟨cb0, cb1, trivial⟩)) (Ex.nil)) ?_
  refine ⟨rfl, (CallV.be fun W hS => joseph_D1_2 x k kb jb W (hg.below hS.bl) (cell_bl hS.bl ckb0) (cell_bl hS.bl ckb1) (cell_bl hS.bl ckb2) (cell_bl hS.bl cjb0)), ?_⟩
  refine ⟨?_, ?_⟩
  · intro h1
    have h1p : ¬ ((bothE x (k 2) (mulZ x (k 2))) = 0) := by simpa using h1
    have M := jb_eq (z := mulZ x (k 2)) fx fk
    have M2 := jt_err (z := mulZ x (k 2)) (by rw [← M.2]; exact h1p)
    refine ⟨trivial, ?_⟩
    exact fun W hS => ⟨by unfold smV smE; rw [M2.2, M.2, M2.1]; rfl, hS.bl⟩
  · intro h2
    have h2p : (bothE x (k 2) (mulZ x (k 2))) = 0 := by simpa using h2
    have M := jb_eq (z := mulZ x (k 2)) fx fk
    have M2 := jt_ok (z := mulZ x (k 2)) (by rw [← M.2]; exact h2p)
    refine ⟨rfl, (CallV.be fun W hS => joseph_D2 (bothV x (k 2) (mulZ x (k 2))) s sb W (hg.below hS.bl) (cell_bl hS.bl csb0)), ?_⟩
    refine ⟨?_, ?_⟩
    · intro h3
      have h3p : ¬ ((bothE (bothV x (k 2) (mulZ x (k 2))) s (mulZ (bothV x (k 2) (mulZ x (k 2))) s)) = 0) := by simpa using h3
      refine ⟨trivial, ?_⟩
      have V1 : bothV x (k 2) (mulZ x (k 2)) = mulZ x (k 2) := M.1.trans M2.1
      have N := jb_eq (z := mulZ (mulZ x (k 2)) s) M2.2 fs
      have q := h3p
      rw [V1, N.2] at q
      have N2 := jt_err q
      exact fun W hS => ⟨by unfold smV smE; rw [if_pos M2.2, if_pos M2.2, V1, N.2, (to_not N2.2).1], hS.bl⟩
    · intro h4
      have h4p : (bothE (bothV x (k 2) (mulZ x (k 2))) s (mulZ (bothV x (k 2) (mulZ x (k 2))) s)) = 0 := by simpa using h4
      refine ⟨trivial, ?_⟩
      have V1 : bothV x (k 2) (mulZ x (k 2)) = mulZ x (k 2) := M.1.trans M2.1
      have N := jb_eq (z := mulZ (mulZ x (k 2)) s) M2.2 fs
      have q := h4p
      rw [V1, N.2] at q
      have N2 := jt_ok q
      exact fun W hS => ⟨by unfold smV smE; rw [if_pos M2.2, if_pos M2.2, V1, N.1, q], hS.bl⟩
set_option maxRecDepth 1000000 in
set_option maxHeartbeats 8000000 in
theorem joseph_stepsA_plan (x t u : Int) (b tb ub : Nat) (w : World) (R : Ending → World → Prop) (hG : St w w [] []) (hE : Ex w [(b, [.func (.func 67) #[] #[.pointer (some ⟨tb, 0, none⟩)], .func (.func 69) #[] #[.pointer (some ⟨ub, 0, none⟩)]])])
    (h : b = b ∧ CallV Tryd.prog w [] [] 67 #[.int .i64 x, .pointer (some ⟨tb, 0, none⟩)] (.tuple #[.int .i64 (bothV x t (x - t)), .int .i64 (bothE x t (x - t))]) ∧ ((((bothE x t (x - t)) != 0) = true → (True) ∧ (LeafV R w [] [] (.tuple #[.int .i64 0, .int .i64 (bothE x t (x - t))]))) ∧ (((bothE x t (x - t)) != 0) = false → b = b ∧ CallV Tryd.prog w [] [] 69 #[.int .i64 (bothV x t (x - t)), .pointer (some ⟨ub, 0, none⟩)] (.tuple #[.int .i64 (bothV (bothV x t (x - t)) u ((bothV x t (x - t)) + u)), .int .i64 (bothE (bothV x t (x - t)) u ((bothV x t (x - t)) + u))]) ∧ ((((bothE (bothV x t (x - t)) u ((bothV x t (x - t)) + u)) != 0) = true → (True) ∧ (LeafV R w [] [] (.tuple #[.int .i64 0, .int .i64 (bothE (bothV x t (x - t)) u ((bothV x t (x - t)) + u))]))) ∧ (((bothE (bothV x t (x - t)) u ((bothV x t (x - t)) + u)) != 0) = false → (True) ∧ (LeafV R w [] [] (.tuple #[.int .i64 (bothV (bothV x t (x - t)) u ((bothV x t (x - t)) + u)), .int .i64 0]))))))) : Calls Tryd.prog 62 #[.int .i64 x, .slice (some ⟨b, 0, none⟩) 2 2] w R :=
  calls_of_plan (f := 62) (es := [(b, [.func (.func 67) #[] #[.pointer (some ⟨tb, 0, none⟩)], .func (.func 69) #[] #[.pointer (some ⟨ub, 0, none⟩)]])]) (c := Tryd.f62.body.getD .skip) (tmps := #[.int .i64 x, .slice (some ⟨b, 0, none⟩) 2 2, undef, undef, undef, undef, undef, undef, undef, undef, undef, undef, undef, undef, undef, undef, undef, undef, undef, undef, undef, undef, undef, undef, undef, undef])
    (.s [.c, .c, .v, .v, .c, .c, .c, .c, .v, .v, .v, .c, .c, .c, .c, .c, .v, .c, .c, .c, .c, .c, .c, .c, .c, .v, .ext 0, .v, .c, .c, .c, .v, .c, .c, .c, .v, .v, .call (.tuple #[.int .i64 (bothV x t (x - t)), .int .i64 (bothE x t (x - t))]), .v, .v, .v, .v, .v, .c, .c, .c, .v, .v, .c] (.split 22 (.s [.c, .c, .c, .v, .v, .v, .c] (.ret [])) (.s [.c, .c, .c, .c, .v, .v, .c, .c, .c, .c, .v, .c, .c, .c, .c, .c, .c, .c, .c, .v, .ext 0, .v, .c, .c, .c, .v, .c, .c, .c, .v, .v, .call (.tuple #[.int .i64 (bothV (bothV x t (x - t)) u ((bothV x t (x - t)) + u)), .int .i64 (bothE (bothV x t (x - t)) u ((bothV x t (x - t)) + u))]), .v, .v, .v, .v, .v, .c, .c, .c, .v, .v, .c] (.split 22 (.s [.c, .c, .c, .v, .v, .v, .c] (.ret [])) (.s [.c, .c, .c, .c, .v, .v, .c, .c, .c, .c, .v, .c, .c, .c, .c, .c, .c, .v, .v, .v, .c] (.ret []))))))
    (by kernel_rfl) hG hE Tryd.func62 (by kernel_rfl) (by kernel_rfl) (Eq.mpr (by kernel_rfl) h)
set_option maxRecDepth 1000000 in
set_option maxHeartbeats 8000000 in
theorem joseph_stepsA (x t u : Int) (b tb ub : Nat) (fx : fitB x = true) (ft : fitB t = true) (fu : fitB u = true) (w : World) (cb0 : w.cell? ⟨b, 0, none⟩ = some (.func (.func 67) #[] #[.pointer (some ⟨tb, 0, none⟩)])) (cb1 : w.cell? ⟨b, 1, none⟩ = some (.func (.func 69) #[] #[.pointer (some ⟨ub, 0, none⟩)])) (ctb0 : w.cell? ⟨tb, 0, none⟩ = some (.int .i64 t)) (cub0 : w.cell? ⟨ub, 0, none⟩ = some (.int .i64 u)) : Calls Tryd.prog 62 #[.int .i64 x, .slice (some ⟨b, 0, none⟩) 2 2] w (fun e w' => e = .returned (.tuple #[.int .i64 (saV x t u), .int .i64 (saE x t u)]) ∧ Below w.heap.size w w') := by
  refine joseph_stepsA_plan x t u b tb ub w _ (St.refl w) (by exact Ex.cons (exOf (by exact ⟨cb0, cb1, trivial⟩)) (Ex.nil)) ?_
  refine ⟨rfl, (CallV.be fun W hS => joseph_D3 x t tb W (cell_bl hS.bl ctb0)), ?_⟩
  refine ⟨?_, ?_⟩
  · intro h1
    have h1p : ¬ ((bothE x t (x - t)) = 0) := by simpa using h1
    have M := jb_eq (z := x - t) fx ft
    have M2 := jt_err (z := x - t) (by rw [← M.2]; exact h1p)
    refine ⟨trivial, ?_⟩
    exact fun W hS => ⟨by unfold saV saE; rw [M2.2, M.2, M2.1]; rfl, hS.bl⟩
  · intro h2
    have h2p : (bothE x t (x - t)) = 0 := by simpa using h2
    have M := jb_eq (z := x - t) fx ft
    have M2 := jt_ok (z := x - t) (by rw [← M.2]; exact h2p)
    refine ⟨rfl, (CallV.be fun W hS => joseph_D4 (bothV x t (x - t)) u ub W (cell_bl hS.bl cub0)), ?_⟩
    refine ⟨?_, ?_⟩
    · intro h3
      have h3p : ¬ ((bothE (bothV x t (x - t)) u ((bothV x t (x - t)) + u)) = 0) := by simpa using h3
      refine ⟨trivial, ?_⟩
      have V1 : bothV x t (x - t) = x - t := M.1.trans M2.1
      have N := jb_eq (z := x - t + u) M2.2 fu
      have q := h3p
      rw [V1, N.2] at q
      have N2 := jt_err q
      exact fun W hS => ⟨by unfold saV saE; rw [if_pos M2.2, if_pos M2.2, V1, N.2, (to_not N2.2).1], hS.bl⟩
    · intro h4
      have h4p : (bothE (bothV x t (x - t)) u ((bothV x t (x - t)) + u)) = 0 := by simpa using h4
      refine ⟨trivial, ?_⟩
      have V1 : bothV x t (x - t) = x - t := M.1.trans M2.1
      have N := jb_eq (z := x - t + u) M2.2 fu
      have q := h4p
      rw [V1, N.2] at q
      have N2 := jt_ok q
      exact fun W hS => ⟨by unfold saV saE; rw [if_pos M2.2, if_pos M2.2, V1, N.1, q], hS.bl⟩

end Go.Proofs.YtfbhcaocfajjpaaDoor
