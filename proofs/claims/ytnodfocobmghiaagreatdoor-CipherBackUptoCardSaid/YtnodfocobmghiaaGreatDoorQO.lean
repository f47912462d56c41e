/- The closed facts of CipherBack's row: each reckoned by itself. -/
import Derived.Test.YtnodfocobmghiaaGreatDoorRows
import Derived.JoinedCond
import Derived.KernelRfl
import Derived.Test.YtnodfocobmghiaaGreatDoorQN
open Go
set_option maxRecDepth 100000
section
open Go Go.Proofs.YtnodfocobmghiaaGreatDoor
set_option maxRecDepth 100000
namespace Go.Proofs.YtnodfocobmghiaaGreatDoor.CipherBack
theorem both {a b:Bool} (ha:a=true) (hb:b=true):(a&&b)=true:=by rw [ha,hb];rfl
set_option maxHeartbeats 40000000 in
theorem facts:joinedFacts Tryz.pinned.checked.prog 6 Tryz.f6 (Rows.OpenSpec.upto Rows.cipherBackSpec).bare Rows.cipherBackUptoRow=true:=by
 unfold joinedFacts
 repeat' (with_reducible refine both ?_ ?_)
 all_goals (as_aux_lemma=>kernel_rfl)
end Go.Proofs.YtnodfocobmghiaaGreatDoor.CipherBack
end
