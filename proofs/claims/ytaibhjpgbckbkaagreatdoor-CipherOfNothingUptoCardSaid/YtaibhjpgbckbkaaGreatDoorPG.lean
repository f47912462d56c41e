/- A part of the proof of CipherOfNothing: Block to Block. -/
import Derived.Test.YtaibhjpgbckbkaaGreatDoorPF
open Go
set_option maxRecDepth 100000
namespace Go.Proofs.YtaibhjpgbckbkaaGreatDoor.Sx
def wE:List (Nat × SB):=[(10,.eY [.int true .u32 1634760805,.int true .u32 857760878,.int true .u32 2036477234,.int true .u32 1797285236]),(11,.eY ([0,4,8,12,1,5,9,13,2,6,10,14,3,7,11,15,0,5,10,15,1,6,11,12,2,7,8,13,3,4,9,14].map fun n=>.int true .i64 n))]
theorem Zl (key nonce:List Int) (c:Int) :
 aR (env fF 6) Tryz.f73 true [] 400 [.agg (cQ .u8 32 key),.int false .u32 c,.agg (cQ .u8 12 nonce)] (fun l=>look l wE) 100 100 =
 some {val:=.agg ((B.block key nonce c).map (.int false .u8))}:=by kernel_rfl
end Go.Proofs.YtaibhjpgbckbkaaGreatDoor.Sx
