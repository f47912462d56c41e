/- slow.Block on the key 1, 0, 0 .. and the counter 0: reckoned once, by the kernel. -/
import Derived.Test.YtaibhjpgbckbkaaGreatDoorBase
open Go
set_option maxRecDepth 100000
namespace Go.Proofs.YtaibhjpgbckbkaaGreatDoor.Sx

def blkA0 : List SV := [.agg [.int true .u8 1, .int true .u8 0, .int true .u8 0, .int true .u8 0, .int true .u8 0, .int true .u8 0, .int true .u8 0, .int true .u8 0, .int true .u8 0, .int true .u8 0, .int true .u8 0, .int true .u8 0, .int true .u8 0, .int true .u8 0, .int true .u8 0, .int true .u8 0, .int true .u8 0, .int true .u8 0, .int true .u8 0, .int true .u8 0, .int true .u8 0, .int true .u8 0, .int true .u8 0, .int true .u8 0, .int true .u8 0, .int true .u8 0, .int true .u8 0, .int true .u8 0, .int true .u8 0, .int true .u8 0, .int true .u8 0, .int true .u8 0], .int true .u32 0, .agg [.int true .u8 0, .int true .u8 0, .int true .u8 0, .int true .u8 0, .int true .u8 0, .int true .u8 0, .int true .u8 0, .int true .u8 0, .int true .u8 0, .int true .u8 0, .int true .u8 0, .int true .u8 0]]
def blkT0 : List (Nat × SB) := [(10, .roc [.int true .u32 1634760805, .int true .u32 857760878, .int true .u32 2036477234, .int true .u32 1797285236]), (11, .roc [.int true .i64 0, .int true .i64 4, .int true .i64 8, .int true .i64 12, .int true .i64 1, .int true .i64 5, .int true .i64 9, .int true .i64 13, .int true .i64 2, .int true .i64 6, .int true .i64 10, .int true .i64 14, .int true .i64 3, .int true .i64 7, .int true .i64 11, .int true .i64 15, .int true .i64 0, .int true .i64 5, .int true .i64 10, .int true .i64 15, .int true .i64 1, .int true .i64 6, .int true .i64 11, .int true .i64 12, .int true .i64 2, .int true .i64 7, .int true .i64 8, .int true .i64 13, .int true .i64 3, .int true .i64 4, .int true .i64 9, .int true .i64 14])]
def blkV0 : SV := .agg [.int true .u8 197, .int true .u8 211, .int true .u8 10, .int true .u8 124, .int true .u8 225, .int true .u8 236, .int true .u8 17, .int true .u8 147, .int true .u8 120, .int true .u8 200, .int true .u8 79, .int true .u8 72, .int true .u8 125, .int true .u8 119, .int true .u8 90, .int true .u8 133, .int true .u8 66, .int true .u8 241, .int true .u8 62, .int true .u8 206, .int true .u8 35, .int true .u8 138, .int true .u8 148, .int true .u8 85, .int true .u8 232, .int true .u8 34, .int true .u8 158, .int true .u8 136, .int true .u8 141, .int true .u8 232, .int true .u8 91, .int true .u8 189, .int true .u8 41, .int true .u8 235, .int true .u8 99, .int true .u8 208, .int true .u8 161, .int true .u8 122, .int true .u8 91, .int true .u8 153, .int true .u8 155, .int true .u8 82, .int true .u8 218, .int true .u8 34, .int true .u8 190, .int true .u8 64, .int true .u8 35, .int true .u8 235, .int true .u8 7, .int true .u8 98, .int true .u8 10, .int true .u8 84, .int true .u8 246, .int true .u8 250, .int true .u8 106, .int true .u8 216, .int true .u8 115, .int true .u8 123, .int true .u8 113, .int true .u8 235, .int true .u8 4, .int true .u8 100, .int true .u8 218, .int true .u8 192]

theorem blk_run0 : interp (env exA 6) Tryz.f73 true [] 400 blkA0 (fun l => look l blkT0) 100 100 = some { val := blkV0 } := by kernel_rfl

theorem blk_ok0 (Γ : Env) (h : Γ.glob = globs) : SumOK Tryz.prog Γ 73 (closedS blkA0 blkT0 blkV0) := by
  have hs : SumOK Tryz.prog (env exA 6) 73 (interp (env exA 6) Tryz.f73 true [] 400) :=
    interp_ok (env_ty exA 6) (env_ok exA (fun f S h Γ _ => exA_ok f S h Γ) 6) mix Tryz.func73 (by kernel_rfl) true [] 400
  have hg : (env exA 6).glob = globs := rfl
  exact (closed_ok hs 100 blkA0 blkT0 blkV0 blk_run0 (by kernel_rfl)).env (by rw [hg, h])

end Go.Proofs.YtaibhjpgbckbkaaGreatDoor.Sx
