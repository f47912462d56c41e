/- The closed facts of SuiteCopies' row: each reckoned by itself. -/
import Derived.Test.YtjomfjihopegmaaGreatDoorRows
import Derived.JoinedCond
import Derived.KernelRfl
import Derived.Test.YtjomfjihopegmaaGreatDoorQM
section
open Go Go.Proofs.YtjomfjihopegmaaGreatDoor
set_option maxRecDepth 100000
namespace Go.Proofs.YtjomfjihopegmaaGreatDoor.Suc
theorem both {a b : Bool} (ha : a = true) (hb : b = true) : (a && b) = true := by rw [ha, hb]; rfl
set_option maxHeartbeats 40000000 in
theorem facts : joinedFacts Tryz.pinned.checked.prog 3 Tryz.f3 (OpenSpec.ofChange Rows.suiteCopiesSpec).bare Rows.suiteCopiesRow = true := by
 unfold joinedFacts
 repeat' (with_reducible refine both ?_ ?_)
 all_goals (as_aux_lemma => kernel_rfl)
end Go.Proofs.YtjomfjihopegmaaGreatDoor.Suc
end
