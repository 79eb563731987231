/- The second engine, eighth part: blocks chosen out of what is known; old variables that may not turn. -/
import Derived.Test.YtgapefmkbmopnaaZg
import Derived.Test.YtgapefmkbmopnaaSa
import Derived.Test.YtgapefmkbmopnaaWc
namespace Go.Proofs.Ytgapefmkbmopnaa
open Go.RowKit
section
variable {B : Base} {W : World} {bs : Blks} {gs : Bigs} {rs : Rws} {os : Lps}
theorem Sx.rows (h : Sx B W bs gs rs os) {rs' : Rws} (hr : ∀ r ∈ rs', r ∈ rs) : Sx B W bs gs rs' os := ⟨h.bx, h.blk, h.nd, h.bg, fun r hx => h.rw r (hr r hx), h.ob, h.on⟩
theorem Sx.sel (h : Sx B W bs gs rs os) (idx : List Nat) (hlt : idx.all (fun i => decide (i < bs.length)) = true) (hnd : idx.Nodup) : Sx B W (pick idx bs) gs (rs.filterMap fun r => (idx.idxOf? r.1).map (·, r.2)) os := by
  have hlt' : ∀ i ∈ idx, i < List.length bs := fun i hi => by simpa using List.all_eq_true.1 hlt i hi
  have hp := pick_at (l := bs) (idx := idx) hlt'
  refine ⟨h.bx, fun x hx => ?_, ?_, h.bg, fun r hr => ?_, h.ob, h.on⟩
  · obtain ⟨j, _, hj⟩ := List.mem_filterMap.1 hx
    exact h.blk x (List.mem_of_getElem? hj)
  · rw [List.Nodup, List.pairwise_iff_getElem]
    intro i j hi hj hij e
    rw [List.length_map] at hi hj
    simp only [List.getElem_map] at e
    have hi' : (pick idx bs)[i]? = some (pick idx bs)[i] := List.getElem?_eq_getElem hi
    have hj' : (pick idx bs)[j]? = some (pick idx bs)[j] := List.getElem?_eq_getElem hj
    rw [hp] at hi' hj'
    obtain ⟨a, ha, hxa⟩ := Option.bind_eq_some_iff.1 hi'
    obtain ⟨b, hb, hxb⟩ := Option.bind_eq_some_iff.1 hj'
    have h1 : (bs.map (·.1))[a]? = some ((pick idx bs)[i]).1 := by rw [List.getElem?_map, hxa]; rfl
    have h2 : (bs.map (·.1))[b]? = some ((pick idx bs)[i]).1 := by rw [List.getElem?_map, hxb]; exact congrArg some e.symm
    have hab := (List.getElem?_inj (List.getElem?_eq_some_iff.1 h1).1 h.nd).1 (h1.trans h2.symm)
    subst hab
    have := (List.getElem?_inj (List.getElem?_eq_some_iff.1 ha).1 hnd).1 (ha.trans hb.symm)
    omega
  · obtain ⟨r', hr', hq⟩ := List.mem_filterMap.1 hr
    obtain ⟨p, hpp, rfl⟩ := Option.map_eq_some_iff.1 hq
    have hp' : idx[p]? = some r'.1 := by
      obtain ⟨hlt2, he2, _⟩ := List.idxOf?_eq_some_iff.1 hpp
      rw [List.getElem?_eq_getElem hlt2, he2]
    obtain ⟨b, cs, cur, q1, q2, q3⟩ := h.rw r' hr'
    refine ⟨b, cs, cur, ?_, q2, q3⟩
    rw [hp, hp']; exact q1
/-- No row is told of. -/
theorem Sx.norows (h : Sx B W bs gs rs os) : Sx B W bs gs [] os := h.rows (fun _ hr => by cases hr)
/-- What is handed over is none of the old variables. -/
theorem Sx.fresh (h : Sx B W bs gs rs os) {g : Nat} (hg : g < B.w.heap.size) (hn : ¬ B.X g) {ks : List Nat} {bs0 : Blks} {os0 : Lps} (hks : bs0 = ks.filterMap fun i => bs[i]?) (hos : os0.Sublist os) : ¬ (BaseOf W bs0 os0).X g := by
  rintro (⟨x, hx, rfl⟩ | ⟨y, hy, rfl⟩)
  · rw [hks] at hx
    obtain ⟨j, _, hj⟩ := List.mem_filterMap.1 hx
    rcases (h.blk x (List.mem_of_getElem? hj)).1 with q | q
    · omega
    · exact hn q
  · rcases (h.ob y (hos.subset hy)).1 with q | q
    · omega
    · exact hn q
theorem Sx.nf {w : World} {g : Nat} : ¬ (⟨w, fun _ => False⟩ : Base).X g := fun h => h
end
section
variable {w W : World} {X : Nat → Prop} {bs : Blks} {gs : Bigs} {rs : Rws} {os : Lps}
end
end Go.Proofs.Ytgapefmkbmopnaa
