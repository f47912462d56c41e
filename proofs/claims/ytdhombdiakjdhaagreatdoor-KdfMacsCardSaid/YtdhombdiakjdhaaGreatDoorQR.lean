/- The closed facts of KdfMacs' row: each reckoned by itself. -/
import Derived.Test.YtdhombdiakjdhaaGreatDoorRows
import Derived.JoinedCond
import Derived.KernelRfl
import Derived.Test.YtdhombdiakjdhaaGreatDoorQQ
section
open Go Go.Proofs.YtdhombdiakjdhaaGreatDoor
set_option maxRecDepth 100000
namespace Go.Proofs.YtdhombdiakjdhaaGreatDoor.Kdm
theorem both {a b : Bool} (ha : a = true) (hb : b = true) : (a && b) = true := by rw [ha, hb]; rfl
set_option maxHeartbeats 40000000 in
theorem facts : joinedFacts Tryz.pinned.checked.prog 5 Tryz.f5 (OpenSpec.ofChange Rows.kdfMacsSpec).bare Rows.kdfMacsRow = true := by
 unfold joinedFacts
 repeat' (with_reducible refine both ?_ ?_)
 all_goals (as_aux_lemma => kernel_rfl)
end Go.Proofs.YtdhombdiakjdhaaGreatDoor.Kdm
end
