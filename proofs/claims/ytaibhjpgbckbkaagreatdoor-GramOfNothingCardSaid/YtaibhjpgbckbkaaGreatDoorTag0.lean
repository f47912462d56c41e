/- slow.Tag, as the sealing calls it: reckoned once, by the kernel. -/
import Derived.Test.YtaibhjpgbckbkaaGreatDoorBase
open Go
set_option maxRecDepth 100000
namespace Go.Proofs.YtaibhjpgbckbkaaGreatDoor.Sx

def tagA0 : List SV := [.agg [.int true .u8 197, .int true .u8 211, .int true .u8 10, .int true .u8 124, .int true .u8 225, .int true .u8 236, .int true .u8 17, .int true .u8 147, .int true .u8 120, .int true .u8 200, .int true .u8 79, .int true .u8 72, .int true .u8 125, .int true .u8 119, .int true .u8 90, .int true .u8 133, .int true .u8 66, .int true .u8 241, .int true .u8 62, .int true .u8 206, .int true .u8 35, .int true .u8 138, .int true .u8 148, .int true .u8 85, .int true .u8 232, .int true .u8 34, .int true .u8 158, .int true .u8 136, .int true .u8 141, .int true .u8 232, .int true .u8 91, .int true .u8 189], .slc 1660 true 0 5 5]
def tagT0 : List (Nat × SB) := [(1660, .own [.raw (.slice none 0 0), .slc 1661 true 0 0 0, .slc 764 true 8 1 1, .slc 1662 true 0 15 15, .slcR 1663 0 16 0] 47), (1661, .own [] 5), (764, .own [.int true .u8 0, .int true .u8 0, .int true .u8 0, .int true .u8 0, .int true .u8 0, .int true .u8 0, .int true .u8 0, .int true .u8 0, .int true .u8 23, .int true .u8 0, .int true .u8 0, .int true .u8 0, .int true .u8 0, .int true .u8 0, .int true .u8 0, .int true .u8 0, .int true .u8 0, .int true .u8 0, .int true .u8 0, .int true .u8 0, .int true .u8 0, .int true .u8 0, .int true .u8 0, .int true .u8 0, .int true .u8 0] 5), (1662, .own [.int true .u8 0, .int true .u8 0, .int true .u8 0, .int true .u8 0, .int true .u8 0, .int true .u8 0, .int true .u8 0, .int true .u8 0, .int true .u8 0, .int true .u8 0, .int true .u8 0, .int true .u8 0, .int true .u8 0, .int true .u8 0, .int true .u8 0] 5), (1663, .row 1 [.int true .u8 0, .int true .u8 0, .int true .u8 0, .int true .u8 0, .int true .u8 0, .int true .u8 0, .int true .u8 0, .int true .u8 0, .int true .u8 1, .int true .u8 0, .int true .u8 0, .int true .u8 0, .int true .u8 0, .int true .u8 0, .int true .u8 0, .int true .u8 0] 5), (17, .roc [.int true .i64 40]), (18, .roc [.int true .i64 40])]
def tagV0 : SV := .agg [.int true .u8 175, .int true .u8 208, .int true .u8 209, .int true .u8 105, .int true .u8 238, .int true .u8 186, .int true .u8 210, .int true .u8 27, .int true .u8 158, .int true .u8 98, .int true .u8 225, .int true .u8 54, .int true .u8 126, .int true .u8 27, .int true .u8 251, .int true .u8 17]

theorem tag_run0 : interp (env exA 22) Tryz.f48 true [] 400 tagA0 (fun l => look l tagT0) 1756 1772 = some { val := tagV0 } := by kernel_rfl

theorem tag_ok0 (Γ : Env) (h : Γ.glob = globs) : SumOK Tryz.prog Γ 48 (exactS tagA0 tagT0 1756 1772 { val := tagV0 }) := by
  have hs : SumOK Tryz.prog (env exA 22) 48 (interp (env exA 22) Tryz.f48 true [] 400) :=
    interp_ok (env_ty exA 22) (env_ok exA (fun f S h Γ _ => exA_ok f S h Γ) 22) mix Tryz.func48 (by kernel_rfl) true [] 400
  have hg : (env exA 22).glob = globs := rfl
  exact (exact_ok hs tagA0 tagT0 1756 1772 { val := tagV0 } tag_run0).env (by rw [hg, h])

end Go.Proofs.YtaibhjpgbckbkaaGreatDoor.Sx
