/- Walks of layer 13 (conf): the list of the rules; the default. -/
import Derived.Test.YtpgkchbgjciinaaKp
import Derived.Test.YtpgkchbgjciinaaKr
import Derived.Great.BuildSlice
import Derived.Great.Walk
import Derived.Deep.WholeRow
namespace Go.Proofs.Ytpgkchbgjciinaa
open Go.RowKit Go.Great
set_option linter.unusedSimpArgs false
set_option linter.unusedVariables false
attribute [local go_sem] nlt2 nlt3 nlt4 nlt5 nlt6 nlt7 nlt8 nlt9 nlt10 nlt11 nlt12
set_option maxRecDepth 100000 in
set_option maxHeartbeats 4000000 in
theorem conf_Default (w : World) : Calls Try.prog 8 #[] w fun e w' => e = .returned (.agg #[.int .i64 1024, .int .i64 65536, .int .i64 256, .int .i64 16384, .int .i64 4194304, .int .i64 4096, .int .i64 274877906944, .int .i64 4398046511104, .int .i64 4398046511104, .int .i64 1099511627776, .int .i64 68719476736, .int .i64 256, .int .i64 256, .int .i64 256, .int .i64 1125899906842624, .int .i64 281474976710656, .int .i64 17592186044416, .int .i64 18014398509481984, .int .i64 562949953421312, .int .i64 8796093022208, .int .i64 9, .int .i64 34359738368, .int .i64 17179869184, .int .i64 (-1073741824), .int .i64 536870912, .int .i64 2048, .int .i64 32768, .int .i64 32, .int .i64 64, .int .i64 1280, .int .i64 240]) ∧ Below w.heap.size w w' := by
  go_enter Try.func8, Try.ntmps8
  apply wp_seq_k; intro K hK
  apply wp_region_lit
  refine wpList_allocTo rfl (some 0) rfl (.pointer (some ⟨w.heap.size, 0, none⟩)) (.cells #[.int .i64 0, .int .i64 0, .int .i64 0, .int .i64 0, .int .i64 0, .int .i64 0, .int .i64 0, .int .i64 0, .int .i64 0, .int .i64 0, .int .i64 0, .int .i64 0, .int .i64 0, .int .i64 0, .int .i64 0, .int .i64 0, .int .i64 0, .int .i64 0, .int .i64 0, .int .i64 0, .int .i64 0, .int .i64 0, .int .i64 0, .int .i64 0, .int .i64 0, .int .i64 0, .int .i64 0, .int .i64 0, .int .i64 0, .int .i64 0, .int .i64 0] 25) (by kernel_rfl) ?_
  apply wpList_nil
  refine hK _ _ ?_
  clear hK K
  apply wp_seq_k; intro K hK
  apply wp_region_lit
  refine wpList_buildTo rfl 23 _ rfl (some 1) rfl #[.int .i64 1024, .int .i64 65536, .int .i64 256] (by kernel_rfl) ?_
  refine wpList_buildTo rfl 23 _ rfl (some 2) rfl #[.int .i64 16384, .int .i64 4194304, .int .i64 4096] (by kernel_rfl) ?_
  refine wpList_buildTo rfl 23 _ rfl (some 3) rfl #[.int .i64 4398046511104, .int .i64 1099511627776, .int .i64 68719476736] (by kernel_rfl) ?_
  refine wpList_buildTo rfl 23 _ rfl (some 4) rfl #[.int .i64 256, .int .i64 256, .int .i64 256] (by kernel_rfl) ?_
  refine wpList_buildTo rfl 23 _ rfl (some 5) rfl #[.int .i64 1125899906842624, .int .i64 281474976710656, .int .i64 17592186044416] (by kernel_rfl) ?_
  refine wpList_buildTo rfl 23 _ rfl (some 6) rfl #[.int .i64 18014398509481984, .int .i64 562949953421312, .int .i64 8796093022208] (by kernel_rfl) ?_
  refine wpList_buildTo rfl 23 _ rfl (some 7) rfl #[.int .i64 34359738368, .int .i64 17179869184, .int .i64 (-1073741824)] (by kernel_rfl) ?_
  refine wpList_buildTo rfl 25 _ rfl (some 8) rfl #[.int .i64 1024, .int .i64 65536, .int .i64 256, .int .i64 16384, .int .i64 4194304, .int .i64 4096, .int .i64 274877906944, .int .i64 4398046511104, .int .i64 4398046511104, .int .i64 1099511627776, .int .i64 68719476736, .int .i64 256, .int .i64 256, .int .i64 256, .int .i64 1125899906842624, .int .i64 281474976710656, .int .i64 17592186044416, .int .i64 18014398509481984, .int .i64 562949953421312, .int .i64 8796093022208, .int .i64 9, .int .i64 34359738368, .int .i64 17179869184, .int .i64 (-1073741824), .int .i64 536870912, .int .i64 2048, .int .i64 32768, .int .i64 32, .int .i64 64, .int .i64 1280, .int .i64 240] (by kernel_rfl) ?_
  refine wpList_store_rowTo rfl 25 _ _ rfl rfl w.heap.size #[.int .i64 1024, .int .i64 65536, .int .i64 256, .int .i64 16384, .int .i64 4194304, .int .i64 4096, .int .i64 274877906944, .int .i64 4398046511104, .int .i64 4398046511104, .int .i64 1099511627776, .int .i64 68719476736, .int .i64 256, .int .i64 256, .int .i64 256, .int .i64 1125899906842624, .int .i64 281474976710656, .int .i64 17592186044416, .int .i64 18014398509481984, .int .i64 562949953421312, .int .i64 8796093022208, .int .i64 9, .int .i64 34359738368, .int .i64 17179869184, .int .i64 (-1073741824), .int .i64 536870912, .int .i64 2048, .int .i64 32768, .int .i64 32, .int .i64 64, .int .i64 1280, .int .i64 240] (by kernel_rfl) (by kernel_rfl) 25 #[.int .i64 0, .int .i64 0, .int .i64 0, .int .i64 0, .int .i64 0, .int .i64 0, .int .i64 0, .int .i64 0, .int .i64 0, .int .i64 0, .int .i64 0, .int .i64 0, .int .i64 0, .int .i64 0, .int .i64 0, .int .i64 0, .int .i64 0, .int .i64 0, .int .i64 0, .int .i64 0, .int .i64 0, .int .i64 0, .int .i64 0, .int .i64 0, .int .i64 0, .int .i64 0, .int .i64 0, .int .i64 0, .int .i64 0, .int .i64 0, .int .i64 0] (heap_alloc_last w _) (by kernel_rfl) rfl (by kernel_rfl) ?_
  apply wpList_nil
  refine hK _ _ ?_
  rw [World.setRow_alloc_new]
  clear hK K
  refine wp_ret (bodyPost_ret (v := .agg #[.int .i64 1024, .int .i64 65536, .int .i64 256, .int .i64 16384, .int .i64 4194304, .int .i64 4096, .int .i64 274877906944, .int .i64 4398046511104, .int .i64 4398046511104, .int .i64 1099511627776, .int .i64 68719476736, .int .i64 256, .int .i64 256, .int .i64 256, .int .i64 1125899906842624, .int .i64 281474976710656, .int .i64 17592186044416, .int .i64 18014398509481984, .int .i64 562949953421312, .int .i64 8796093022208, .int .i64 9, .int .i64 34359738368, .int .i64 17179869184, .int .i64 (-1073741824), .int .i64 536870912, .int .i64 2048, .int .i64 32768, .int .i64 32, .int .i64 64, .int .i64 1280, .int .i64 240]) (results_row (a := 0) (t := 25) rfl (g := w.heap.size) (by kernel_rfl) (run_loadVar_all (heap_alloc_last w _) (by kernel_rfl) (by kernel_rfl))) (by kernel_rfl) ⟨rfl, bl_alloc (Below.refl _ _) _⟩)
set_option maxRecDepth 100000 in
set_option maxHeartbeats 4000000 in
theorem conf_rules (w : World) : Calls Try.prog 25 #[] w fun e w' => e = .returned (.agg #[.int .i64 1, .func (.func 28) #[] #[], .int .i64 2, .func (.func 32) #[] #[], .int .i64 3, .func (.func 34) #[] #[], .int .i64 4, .func (.func 35) #[] #[], .int .i64 5, .func (.func 36) #[] #[], .int .i64 6, .func (.func 39) #[] #[], .int .i64 7, .func (.func 41) #[] #[], .int .i64 8, .func (.func 43) #[] #[], .int .i64 9, .func (.func 44) #[] #[], .int .i64 10, .func (.func 46) #[] #[], .int .i64 11, .func (.func 47) #[] #[], .int .i64 12, .func (.func 48) #[] #[], .int .i64 13, .func (.func 49) #[] #[], .int .i64 14, .func (.func 50) #[] #[]]) ∧ Below w.heap.size w w' := by
  go_enter Try.func25, Try.ntmps25
  apply wp_seq_k; intro K hK
  apply wp_region_lit
  refine wpList_allocTo rfl (some 0) rfl (.pointer (some ⟨w.heap.size, 0, none⟩)) (.cells #[.int .i64 0, .nilFunc, .int .i64 0, .nilFunc, .int .i64 0, .nilFunc, .int .i64 0, .nilFunc, .int .i64 0, .nilFunc, .int .i64 0, .nilFunc, .int .i64 0, .nilFunc, .int .i64 0, .nilFunc, .int .i64 0, .nilFunc, .int .i64 0, .nilFunc, .int .i64 0, .nilFunc, .int .i64 0, .nilFunc, .int .i64 0, .nilFunc, .int .i64 0, .nilFunc] 65) (by kernel_rfl) ?_
  apply wpList_nil
  refine hK _ _ ?_
  clear hK K
  apply wp_seq_k; intro K hK
  apply wp_region_lit
  refine wpList_buildTo rfl 64 _ rfl (some 1) rfl #[.int .i64 1, .func (.func 28) #[] #[]] (by kernel_rfl) ?_
  refine wpList_buildTo rfl 64 _ rfl (some 2) rfl #[.int .i64 2, .func (.func 32) #[] #[]] (by kernel_rfl) ?_
  refine wpList_buildTo rfl 64 _ rfl (some 3) rfl #[.int .i64 3, .func (.func 34) #[] #[]] (by kernel_rfl) ?_
  refine wpList_buildTo rfl 64 _ rfl (some 4) rfl #[.int .i64 4, .func (.func 35) #[] #[]] (by kernel_rfl) ?_
  refine wpList_buildTo rfl 64 _ rfl (some 5) rfl #[.int .i64 5, .func (.func 36) #[] #[]] (by kernel_rfl) ?_
  refine wpList_buildTo rfl 64 _ rfl (some 6) rfl #[.int .i64 6, .func (.func 39) #[] #[]] (by kernel_rfl) ?_
  refine wpList_buildTo rfl 64 _ rfl (some 7) rfl #[.int .i64 7, .func (.func 41) #[] #[]] (by kernel_rfl) ?_
  refine wpList_buildTo rfl 64 _ rfl (some 8) rfl #[.int .i64 8, .func (.func 43) #[] #[]] (by kernel_rfl) ?_
  refine wpList_buildTo rfl 64 _ rfl (some 9) rfl #[.int .i64 9, .func (.func 44) #[] #[]] (by kernel_rfl) ?_
  refine wpList_buildTo rfl 64 _ rfl (some 10) rfl #[.int .i64 10, .func (.func 46) #[] #[]] (by kernel_rfl) ?_
  refine wpList_buildTo rfl 64 _ rfl (some 11) rfl #[.int .i64 11, .func (.func 47) #[] #[]] (by kernel_rfl) ?_
  refine wpList_buildTo rfl 64 _ rfl (some 12) rfl #[.int .i64 12, .func (.func 48) #[] #[]] (by kernel_rfl) ?_
  refine wpList_buildTo rfl 64 _ rfl (some 13) rfl #[.int .i64 13, .func (.func 49) #[] #[]] (by kernel_rfl) ?_
  refine wpList_buildTo rfl 64 _ rfl (some 14) rfl #[.int .i64 14, .func (.func 50) #[] #[]] (by kernel_rfl) ?_
  refine wpList_buildTo rfl 65 _ rfl (some 15) rfl #[.int .i64 1, .func (.func 28) #[] #[], .int .i64 2, .func (.func 32) #[] #[], .int .i64 3, .func (.func 34) #[] #[], .int .i64 4, .func (.func 35) #[] #[], .int .i64 5, .func (.func 36) #[] #[], .int .i64 6, .func (.func 39) #[] #[], .int .i64 7, .func (.func 41) #[] #[], .int .i64 8, .func (.func 43) #[] #[], .int .i64 9, .func (.func 44) #[] #[], .int .i64 10, .func (.func 46) #[] #[], .int .i64 11, .func (.func 47) #[] #[], .int .i64 12, .func (.func 48) #[] #[], .int .i64 13, .func (.func 49) #[] #[], .int .i64 14, .func (.func 50) #[] #[]] (by kernel_rfl) ?_
  refine wpList_store_rowTo rfl 65 _ _ rfl rfl w.heap.size #[.int .i64 1, .func (.func 28) #[] #[], .int .i64 2, .func (.func 32) #[] #[], .int .i64 3, .func (.func 34) #[] #[], .int .i64 4, .func (.func 35) #[] #[], .int .i64 5, .func (.func 36) #[] #[], .int .i64 6, .func (.func 39) #[] #[], .int .i64 7, .func (.func 41) #[] #[], .int .i64 8, .func (.func 43) #[] #[], .int .i64 9, .func (.func 44) #[] #[], .int .i64 10, .func (.func 46) #[] #[], .int .i64 11, .func (.func 47) #[] #[], .int .i64 12, .func (.func 48) #[] #[], .int .i64 13, .func (.func 49) #[] #[], .int .i64 14, .func (.func 50) #[] #[]] (by kernel_rfl) (by kernel_rfl) 65 #[.int .i64 0, .nilFunc, .int .i64 0, .nilFunc, .int .i64 0, .nilFunc, .int .i64 0, .nilFunc, .int .i64 0, .nilFunc, .int .i64 0, .nilFunc, .int .i64 0, .nilFunc, .int .i64 0, .nilFunc, .int .i64 0, .nilFunc, .int .i64 0, .nilFunc, .int .i64 0, .nilFunc, .int .i64 0, .nilFunc, .int .i64 0, .nilFunc, .int .i64 0, .nilFunc] (heap_alloc_last w _) (by kernel_rfl) rfl (by kernel_rfl) ?_
  apply wpList_nil
  refine hK _ _ ?_
  rw [World.setRow_alloc_new]
  clear hK K
  refine wp_ret (bodyPost_ret (v := .agg #[.int .i64 1, .func (.func 28) #[] #[], .int .i64 2, .func (.func 32) #[] #[], .int .i64 3, .func (.func 34) #[] #[], .int .i64 4, .func (.func 35) #[] #[], .int .i64 5, .func (.func 36) #[] #[], .int .i64 6, .func (.func 39) #[] #[], .int .i64 7, .func (.func 41) #[] #[], .int .i64 8, .func (.func 43) #[] #[], .int .i64 9, .func (.func 44) #[] #[], .int .i64 10, .func (.func 46) #[] #[], .int .i64 11, .func (.func 47) #[] #[], .int .i64 12, .func (.func 48) #[] #[], .int .i64 13, .func (.func 49) #[] #[], .int .i64 14, .func (.func 50) #[] #[]]) (results_row (a := 0) (t := 65) rfl (g := w.heap.size) (by kernel_rfl) (run_loadVar_all (heap_alloc_last w _) (by kernel_rfl) (by kernel_rfl))) (by kernel_rfl) ⟨rfl, bl_alloc (Below.refl _ _) _⟩)
end Go.Proofs.Ytpgkchbgjciinaa
