/- Walks of layer 2 (fix): whether a number fits. -/
import Derived.Test.YtfbhcaocfajjpaaDoorQFp
import Derived.Test.YtfbhcaocfajjpaaDoorQWk
import Derived.Test.YtfbhcaocfajjpaaDoorQSt
namespace Go.Proofs.YtfbhcaocfajjpaaDoor
open Go.RowKit
set_option linter.unusedSimpArgs false
set_option linter.unusedVariables false
attribute [local go_sem] nlt2 nlt3 nlt4 nlt5 nlt6 nlt7 nlt8 nlt9 nlt10 nlt11 nlt12

set_option maxHeartbeats 400000 in
theorem fix_Fits (x : Int) (w : World) : Calls Tryd.prog 46 #[.int .i64 x] w fun e w' => e = .returned (.bool (fitB x)) ∧ w = w' := by
  cases h : fitB x
  · have k := fitB_false.1 h
    clear h
    rcases Int.lt_or_le x (-288230376151711744) with k1 | k1
    · clear k
      go_enter Tryd.func46, Tryd.ntmps46
      go_wp2
      go_ret
      exact ⟨by first | rfl | exact ret_bool (by simp; omega), rfl⟩
    · have k2 : 288230376151711744 < x := by omega
      clear k
      go_enter Tryd.func46, Tryd.ntmps46
      go_wp2
      go_ret
      exact ⟨by first | rfl | exact ret_bool (by simp; omega), rfl⟩
  · obtain ⟨k1, k2⟩ := fitB_true.1 h
    clear h
    go_enter Tryd.func46, Tryd.ntmps46
    go_wp2
    go_ret
    exact ⟨by first | rfl | exact ret_bool (by simp; omega), rfl⟩
set_option maxHeartbeats 400000 in
theorem ref2_Fits (x : Int) (w : World) : Calls Tryd.prog 54 #[.int .i64 x] w fun e w' => e = .returned (.bool (fitB x)) ∧ w = w' := by
  cases h : fitB x
  · have k := fitB_false.1 h
    clear h
    rcases Int.lt_or_le x (-288230376151711744) with k1 | k1
    · clear k
      go_enter Tryd.func54, Tryd.ntmps54
      go_wp2
      go_ret
      exact ⟨by first | rfl | exact ret_bool (by simp; omega), rfl⟩
    · have k2 : 288230376151711744 < x := by omega
      clear k
      go_enter Tryd.func54, Tryd.ntmps54
      go_wp2
      go_ret
      exact ⟨by first | rfl | exact ret_bool (by simp; omega), rfl⟩
  · obtain ⟨k1, k2⟩ := fitB_true.1 h
    clear h
    go_enter Tryd.func54, Tryd.ntmps54
    go_wp2
    go_ret
    exact ⟨by first | rfl | exact ret_bool (by simp; omega), rfl⟩
end Go.Proofs.YtfbhcaocfajjpaaDoor
