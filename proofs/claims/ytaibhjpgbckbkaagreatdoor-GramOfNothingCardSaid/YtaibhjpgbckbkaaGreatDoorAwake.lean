/- 'awake' of pintlelaw25, which is given nothing: it answers true, where the variables that are listed hold what is listed. Reckoned once, by the kernel, over the calls of slow.Block and slow.Tag. -/
import Derived.Test.YtaibhjpgbckbkaaGreatDoorBlk0
import Derived.Test.YtaibhjpgbckbkaaGreatDoorBlk1
import Derived.Test.YtaibhjpgbckbkaaGreatDoorTag0
import Derived.Test.YtaibhjpgbckbkaaGreatDoorTag1
open Go
set_option maxRecDepth 100000
namespace Go.Proofs.YtaibhjpgbckbkaaGreatDoor.Sx

def exB (f : Nat) : Option Sum := match Nat.beq f 73 with
  | true => some (orS (closedS blkA0 blkT0 blkV0) (closedS blkA1 blkT1 blkV1))
  | false => match Nat.beq f 48 with
    | true => some (orS (exactS tagA0 tagT0 1756 1772 { val := tagV0 }) (exactS tagA1 tagT1 2324 2356 { val := tagV1 }))
    | false => exA f

theorem exB_ok (f : Nat) (S : Sum) (h : exB f = some S) (Γ : Env) (hg : Γ.glob = globs) : SumOK Tryz.prog Γ f S := by
  unfold exB at h
  split at h
  · rename_i hb; have := Nat.eq_of_beq_eq_true hb; subst this; cases h; exact orS_ok (blk_ok0 Γ hg) (blk_ok1 Γ hg)
  · split at h
    · rename_i hb; have := Nat.eq_of_beq_eq_true hb; subst this; cases h; exact orS_ok (tag_ok0 Γ hg) (tag_ok1 Γ hg)
    · exact exA_ok f S h Γ

/-- What is listed: the errors, each a pointer; the tables. -/
def laidT : List (Nat × SB) := blkT0 ++ [(0, .roc [.ifc 367 (.ptr 40 true 0)]), (1, .roc [.ifc 367 (.ptr 41 true 0)]), (2, .roc [.ifc 367 (.ptr 42 true 0)]), (3, .roc [.ifc 367 (.ptr 43 true 0)]), (4, .roc [.ifc 367 (.ptr 44 true 0)]), (6, .roc [.ifc 367 (.ptr 46 true 0)]), (7, .roc [.ifc 367 (.ptr 47 true 0)]), (8, .roc [.ifc 367 (.ptr 48 true 0)]), (17, .roc [.int true .i64 40]), (18, .roc [.int true .i64 40])]

theorem awake_run : interp (env exB 12) Tryz.f18 true [] 400 [] (fun l => look l laidT) 100 100 = some { val := .bool true true } := by kernel_rfl

theorem awake_ok (Γ : Env) (h : Γ.glob = globs) : SumOK Tryz.prog Γ 18 (lowS [] laidT (.bool true true)) := by
  have hs : SumOK Tryz.prog (env exB 12) 18 (interp (env exB 12) Tryz.f18 true [] 400) :=
    interp_ok (env_ty exB 12) (env_ok exB (fun f S h Γ hg => exB_ok f S h Γ hg) 12) mix Tryz.func18 (by kernel_rfl) true [] 400
  have hg : (env exB 12).glob = globs := rfl
  exact (low_ok hs 100 [] laidT (.bool true true) awake_run (by kernel_rfl)).env (by rw [hg, h])

end Go.Proofs.YtaibhjpgbckbkaaGreatDoor.Sx
