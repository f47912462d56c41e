/- The closed facts of AeadTurned's row: each reckoned by itself. -/
import Derived.Test.YticicdfijghigaaGreatDoorRows
import Derived.JoinedCond
import Derived.KernelRfl
import Derived.Test.YticicdfijghigaaGreatDoorQO
open Go
set_option maxRecDepth 100000
section
open Go Go.Proofs.YticicdfijghigaaGreatDoor
set_option maxRecDepth 100000
namespace Go.Proofs.YticicdfijghigaaGreatDoor.AeadTurned
theorem both {a b:Bool} (ha:a=true) (hb:b=true):(a&&b)=true:=by rw [ha,hb];rfl
set_option maxHeartbeats 40000000 in
theorem facts:joinedFacts Tryz.pinned.checked.prog 5 Tryz.f5 (OpenSpec.ofChange Rows.aeadTurnedSpec).bare Rows.aeadTurnedRow=true:=by
 unfold joinedFacts
 repeat' (with_reducible refine both ?_ ?_)
 all_goals (as_aux_lemma=>kernel_rfl)
end Go.Proofs.YticicdfijghigaaGreatDoor.AeadTurned
end
