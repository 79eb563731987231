/- slices.Sort on a block of the list. -/
import Derived.Shelf.SortM.Plain
import Derived.Test.YtgapefmkbmopnaaYa
import Derived.Test.YtgapefmkbmopnaaYd
namespace Go.Proofs.Ytgapefmkbmopnaa
open Go.RowKit Go.Sort
theorem sort_calls (b cap : Nat) (zs : List Int) (W : World) (hH : Holds (Value.int .i64) W b 0 zs.toArray) (hb : b < W.heap.size) (hsz : zs.length < 4611686018427387904) :
    Calls Try.prog 8 #[.slice (some ⟨b, 0, none⟩) zs.length cap] W fun e w' =>
      e = .returned (.tuple #[]) ∧ ∃ n os, w' = grow (putRow (Value.int .i64) (Sort.ahead W n) b 0 (srt zs).toArray) os :=
  AnyM.slices_Sort_int Try.laySort b 0 cap zs W hH hb hsz
theorem sort_M (B : Base) (bs : Blks) (rs : Rws) (os : Lps) (k b cap : Nat) (zs : List Int) (rs' : Rws) (hk : bs[k]? = some (b, zs.map (Value.int .i64))) (hsz : zs.length < 4611686018427387904) (hr : ∀ r ∈ rs', r ∈ rs) :
    CallMX Try.prog B bs [] rs os 8 #[.slice (some ⟨b, 0, none⟩) zs.length cap] (fun _ => (.tuple #[], bs.set k (b, (srt zs).map (Value.int .i64)), rs')) := by
  intro W hS
  have hm := List.mem_of_getElem? hk
  obtain ⟨q1, _, q3, q4⟩ := hS.blk _ hm
  have hlt := hS.lt hm
  have hH : Holds (Value.int .i64) W b 0 zs.toArray := fun j hj => by
    have hj' : j < zs.length := by simpa using hj
    refine ⟨?_, by rw [Nat.zero_add]; exact q3 j⟩
    rw [Nat.zero_add]
    refine q4 j _ ?_
    rw [List.getElem?_map, List.getElem?_eq_getElem hj']
    simp [hj']
  have hlen : (srt zs).length = zs.length := (srt_perm zs).length_eq
  refine (sort_calls b cap zs W hH hlt hsz).mono ?_
  rintro e w' ⟨rfl, n, os', rfl⟩
  have hheap : ∀ i, i < W.heap.size → (grow (putRow (Value.int .i64) (Sort.ahead W n) b 0 (srt zs).toArray) os').heap[i]? = if b = i then (W.heap[i]?).map (onCells (putCells (Value.int .i64) 0 (srt zs).toArray)) else W.heap[i]? := by
    intro i hi
    rw [heap_grow_old _ _ (by simpa using hi)]
    show ((W.heap.modify b _)[i]?) = _
    rw [Array.getElem?_modify]
  have hY : BelX ⟨W, fun i => i = b⟩ (grow (putRow (Value.int .i64) (Sort.ahead W n) b 0 (srt zs).toArray) os') :=
    ⟨rfl, rfl, rfl, by simp, fun i hi hn => by rw [hheap i hi, if_neg (fun e => hn e.symm)]⟩
  refine ⟨fun _ => 0, rfl, hY.mono (fun i _ e => Or.inl ⟨_, hm, e.symm⟩), ?_⟩
  refine (hS.turn (cs' := (srt zs).map (Value.int .i64)) hk hY (fun cur e z hc => ?_) (fun i v hv => ?_) (fun g hg => by cases hg)).rows hr
  · rw [hheap b hlt, if_pos rfl, hc]
    exact ⟨_, rfl, by simp [putCells]⟩
  · rw [List.getElem?_map] at hv
    have hi : i < (srt zs).length := by
      by_cases h : i < (srt zs).length
      · exact h
      · rw [List.getElem?_eq_none (by omega)] at hv; cases hv
    rw [List.getElem?_eq_getElem hi] at hv
    rw [cell?_grow _ _ _ (by simpa using hlt)]
    have := cell?_putRow (Value.int .i64) (Sort.ahead W n) b 0 zs.toArray (srt zs).toArray (holds_ahead _ _ _ _ _ _ hH) (by simp [hlen]) i (by simpa using hi)
    rw [Nat.zero_add] at this
    rw [this, ← hv]
    simp [hi]
end Go.Proofs.Ytgapefmkbmopnaa
