/- The closed facts of KdfKeys' row: each reckoned by itself. -/
import Derived.Test.YtdhombdiakjdhaaGreatDoorRows
import Derived.JoinedCond
import Derived.KernelRfl
import Derived.Test.YtdhombdiakjdhaaGreatDoorQS
section
open Go Go.Proofs.YtdhombdiakjdhaaGreatDoor
set_option maxRecDepth 100000
namespace Go.Proofs.YtdhombdiakjdhaaGreatDoor.Kdk

theorem both {a b : Bool} (ha : a = true) (hb : b = true) : (a && b) = true := by rw [ha, hb]; rfl

set_option maxHeartbeats 40000000 in
theorem facts : joinedFacts Tryz.pinned.checked.prog 6 Tryz.f6 (OpenSpec.ofChange Rows.kdfKeysSpec).bare Rows.kdfKeysRow = true := by
  unfold joinedFacts
  repeat' (with_reducible refine both ?_ ?_)
  all_goals (as_aux_lemma => kernel_rfl)

end Go.Proofs.YtdhombdiakjdhaaGreatDoor.Kdk
end
