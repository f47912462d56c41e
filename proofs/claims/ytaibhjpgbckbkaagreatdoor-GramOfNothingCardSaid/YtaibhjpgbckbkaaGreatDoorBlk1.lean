/- slow.Block on the key 1, 0, 0 .. and the counter 1: reckoned once, by the kernel. -/
import Derived.Test.YtaibhjpgbckbkaaGreatDoorBase
open Go
set_option maxRecDepth 100000
namespace Go.Proofs.YtaibhjpgbckbkaaGreatDoor.Sx

def blkA1 : List SV := [.agg [.int true .u8 1, .int true .u8 0, .int true .u8 0, .int true .u8 0, .int true .u8 0, .int true .u8 0, .int true .u8 0, .int true .u8 0, .int true .u8 0, .int true .u8 0, .int true .u8 0, .int true .u8 0, .int true .u8 0, .int true .u8 0, .int true .u8 0, .int true .u8 0, .int true .u8 0, .int true .u8 0, .int true .u8 0, .int true .u8 0, .int true .u8 0, .int true .u8 0, .int true .u8 0, .int true .u8 0, .int true .u8 0, .int true .u8 0, .int true .u8 0, .int true .u8 0, .int true .u8 0, .int true .u8 0, .int true .u8 0, .int true .u8 0], .int true .u32 1, .agg [.int true .u8 0, .int true .u8 0, .int true .u8 0, .int true .u8 0, .int true .u8 0, .int true .u8 0, .int true .u8 0, .int true .u8 0, .int true .u8 0, .int true .u8 0, .int true .u8 0, .int true .u8 0]]
def blkT1 : List (Nat × SB) := [(10, .roc [.int true .u32 1634760805, .int true .u32 857760878, .int true .u32 2036477234, .int true .u32 1797285236]), (11, .roc [.int true .i64 0, .int true .i64 4, .int true .i64 8, .int true .i64 12, .int true .i64 1, .int true .i64 5, .int true .i64 9, .int true .i64 13, .int true .i64 2, .int true .i64 6, .int true .i64 10, .int true .i64 14, .int true .i64 3, .int true .i64 7, .int true .i64 11, .int true .i64 15, .int true .i64 0, .int true .i64 5, .int true .i64 10, .int true .i64 15, .int true .i64 1, .int true .i64 6, .int true .i64 11, .int true .i64 12, .int true .i64 2, .int true .i64 7, .int true .i64 8, .int true .i64 13, .int true .i64 3, .int true .i64 4, .int true .i64 9, .int true .i64 14])]
def blkV1 : SV := .agg [.int true .u8 16, .int true .u8 246, .int true .u8 86, .int true .u8 230, .int true .u8 209, .int true .u8 253, .int true .u8 85, .int true .u8 5, .int true .u8 62, .int true .u8 80, .int true .u8 196, .int true .u8 135, .int true .u8 92, .int true .u8 153, .int true .u8 48, .int true .u8 163, .int true .u8 63, .int true .u8 109, .int true .u8 2, .int true .u8 99, .int true .u8 189, .int true .u8 20, .int true .u8 223, .int true .u8 214, .int true .u8 171, .int true .u8 140, .int true .u8 112, .int true .u8 82, .int true .u8 28, .int true .u8 25, .int true .u8 51, .int true .u8 139, .int true .u8 35, .int true .u8 8, .int true .u8 185, .int true .u8 92, .int true .u8 248, .int true .u8 208, .int true .u8 187, .int true .u8 125, .int true .u8 32, .int true .u8 45, .int true .u8 33, .int true .u8 2, .int true .u8 120, .int true .u8 14, .int true .u8 163, .int true .u8 82, .int true .u8 143, .int true .u8 28, .int true .u8 180, .int true .u8 133, .int true .u8 96, .int true .u8 247, .int true .u8 107, .int true .u8 32, .int true .u8 243, .int true .u8 130, .int true .u8 185, .int true .u8 66, .int true .u8 80, .int true .u8 15, .int true .u8 206, .int true .u8 172]

theorem blk_run1 : interp (env exA 6) Tryz.f73 true [] 400 blkA1 (fun l => look l blkT1) 100 100 = some { val := blkV1 } := by kernel_rfl

theorem blk_ok1 (Γ : Env) (h : Γ.glob = globs) : SumOK Tryz.prog Γ 73 (closedS blkA1 blkT1 blkV1) := by
  have hs : SumOK Tryz.prog (env exA 6) 73 (interp (env exA 6) Tryz.f73 true [] 400) :=
    interp_ok (env_ty exA 6) (env_ok exA (fun f S h Γ _ => exA_ok f S h Γ) 6) mix Tryz.func73 (by kernel_rfl) true [] 400
  have hg : (env exA 6).glob = globs := rfl
  exact (closed_ok hs 100 blkA1 blkT1 blkV1 blk_run1 (by kernel_rfl)).env (by rw [hg, h])

end Go.Proofs.YtaibhjpgbckbkaaGreatDoor.Sx
