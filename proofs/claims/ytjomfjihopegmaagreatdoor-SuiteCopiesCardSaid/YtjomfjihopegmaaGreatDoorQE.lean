/- digest.rounds, whatever it is asked. -/
import Derived.Test.YtjomfjihopegmaaGreatDoorQD
section
open Go
set_option maxRecDepth 100000
namespace Go.Proofs.YtjomfjihopegmaaGreatDoor.Sx
theorem rounds_run (v m : List Int) (ty : Nat) : interp (env exA 3) Tryz.f129 true [] 400 [.ptr 60 true 0, .ptr 61 true 0] (fun l => look l [(60, .own (intsV .u32 16 v) ty), (61, .roc (intsV .u32 16 m))]) 100 100 =
  some { val := .tup [], wr := [(60, .own ((D.rounds (bytesI 16 v) m).map (.int false .u32)) ty)] } := by kernel_rfl
end Go.Proofs.YtjomfjihopegmaaGreatDoor.Sx
end
