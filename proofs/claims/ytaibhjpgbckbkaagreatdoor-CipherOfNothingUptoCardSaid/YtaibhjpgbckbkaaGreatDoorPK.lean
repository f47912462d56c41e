/- A part of the proof of CipherOfNothing: CFacts to CFacts. -/
import Derived.Test.YtaibhjpgbckbkaaGreatDoorPJ
import Derived.Test.YtaibhjpgbckbkaaGreatDoorRows
import Derived.JoinedCond
import Derived.KernelRfl
open Go
set_option maxRecDepth 100000
namespace Go.Proofs.YtaibhjpgbckbkaaGreatDoor.Cip
theorem both {a b:Bool} (ha:a=true) (hb:b=true):(a&&b)=true:=by rw [ha,hb];rfl
set_option maxHeartbeats 40000000 in
theorem facts:joinedFacts Tryz.pinned.checked.prog 3 Tryz.f3 (Rows.OpenSpec.upto Rows.cipherOfNothingSpec).bare Rows.cipherOfNothingUptoRow=true:=by
 unfold joinedFacts
 repeat' (with_reducible refine both ?_ ?_)
 all_goals (as_aux_lemma=>kernel_rfl)
end Go.Proofs.YtaibhjpgbckbkaaGreatDoor.Cip
