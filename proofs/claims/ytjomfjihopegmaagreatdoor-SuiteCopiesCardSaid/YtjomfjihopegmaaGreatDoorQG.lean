/- slow.press: a round, the end. -/
import Derived.Test.YtjomfjihopegmaaGreatDoorQF
section
open Go
set_option maxRecDepth 100000
namespace Go.Proofs.YtjomfjihopegmaaGreatDoor.Sx
theorem sw_10 (st blk v v' : List Int) : toC 100 Tryz.f114.ntmps (cutT 100 (swT st blk)) [] (swGs 1) (swTb v') 101 [] [] (swM st blk (.go swLp) [] ((stOf (swGs 0) (swTb v) 101 [] []).hint [])) =
  some (.at .normal, [], [D.roundM (bytesI 16 v) (D.words blk) (D.orders.getD 0 []) = bytesI 16 v']) := by kernel_rfl
theorem sw_11 (st blk v v' : List Int) : toC 100 Tryz.f114.ntmps (cutT 100 (swT st blk)) [] (swGs 2) (swTb v') 101 [] [] (swM st blk (.go swLp) [] ((stOf (swGs 1) (swTb v) 101 [] []).hint [])) =
  some (.at .normal, [], [D.roundM (bytesI 16 v) (D.words blk) (D.orders.getD 1 []) = bytesI 16 v']) := by kernel_rfl
theorem sw_12 (st blk v v' : List Int) : toC 100 Tryz.f114.ntmps (cutT 100 (swT st blk)) [] (swGs 3) (swTb v') 101 [] [] (swM st blk (.go swLp) [] ((stOf (swGs 2) (swTb v) 101 [] []).hint [])) =
  some (.at .normal, [], [D.roundM (bytesI 16 v) (D.words blk) (D.orders.getD 2 []) = bytesI 16 v']) := by kernel_rfl
theorem sw_13 (st blk v v' : List Int) : toC 100 Tryz.f114.ntmps (cutT 100 (swT st blk)) [] (swGs 4) (swTb v') 101 [] [] (swM st blk (.go swLp) [] ((stOf (swGs 3) (swTb v) 101 [] []).hint [])) =
  some (.at .normal, [], [D.roundM (bytesI 16 v) (D.words blk) (D.orders.getD 3 []) = bytesI 16 v']) := by kernel_rfl
theorem sw_14 (st blk v v' : List Int) : toC 100 Tryz.f114.ntmps (cutT 100 (swT st blk)) [] (swGs 5) (swTb v') 101 [] [] (swM st blk (.go swLp) [] ((stOf (swGs 4) (swTb v) 101 [] []).hint [])) =
  some (.at .normal, [], [D.roundM (bytesI 16 v) (D.words blk) (D.orders.getD 4 []) = bytesI 16 v']) := by kernel_rfl
theorem sw_15 (st blk v v' : List Int) : toC 100 Tryz.f114.ntmps (cutT 100 (swT st blk)) [] (swGs 6) (swTb v') 101 [] [] (swM st blk (.go swLp) [] ((stOf (swGs 5) (swTb v) 101 [] []).hint [])) =
  some (.at .normal, [], [D.roundM (bytesI 16 v) (D.words blk) (D.orders.getD 5 []) = bytesI 16 v']) := by kernel_rfl
theorem sw_16 (st blk v v' : List Int) : toC 100 Tryz.f114.ntmps (cutT 100 (swT st blk)) [] (swGs 7) (swTb v') 101 [] [] (swM st blk (.go swLp) [] ((stOf (swGs 6) (swTb v) 101 [] []).hint [])) =
  some (.at .normal, [], [D.roundM (bytesI 16 v) (D.words blk) (D.orders.getD 6 []) = bytesI 16 v']) := by kernel_rfl
theorem sw_17 (st blk v v' : List Int) : toC 100 Tryz.f114.ntmps (cutT 100 (swT st blk)) [] (swGs 8) (swTb v') 101 [] [] (swM st blk (.go swLp) [] ((stOf (swGs 7) (swTb v) 101 [] []).hint [])) =
  some (.at .normal, [], [D.roundM (bytesI 16 v) (D.words blk) (D.orders.getD 7 []) = bytesI 16 v']) := by kernel_rfl
theorem sw_18 (st blk v v' : List Int) : toC 100 Tryz.f114.ntmps (cutT 100 (swT st blk)) [] (swGs 9) (swTb v') 101 [] [] (swM st blk (.go swLp) [] ((stOf (swGs 8) (swTb v) 101 [] []).hint [])) =
  some (.at .normal, [], [D.roundM (bytesI 16 v) (D.words blk) (D.orders.getD 8 []) = bytesI 16 v']) := by kernel_rfl
theorem sw_19 (st blk v v' : List Int) : toC 100 Tryz.f114.ntmps (cutT 100 (swT st blk)) [] (swGs 10) (swTb v') 101 [] [] (swM st blk (.go swLp) [] ((stOf (swGs 9) (swTb v) 101 [] []).hint [])) =
  some (.at .normal, [], [D.roundM (bytesI 16 v) (D.words blk) (D.orders.getD 9 []) = bytesI 16 v']) := by kernel_rfl
theorem sw_2 (st blk v : List Int) : toC 100 Tryz.f114.ntmps (cutT 100 (swT st blk)) [] (swGs 10) (swTb v) 101 [] [] (swM st blk (.go swLp) [] ((stOf (swGs 10) (swTb v) 101 [] []).hint [])) = some (.at (.exit 0), [], [bytesI 16 v = bytesI 16 v]) := by kernel_rfl
theorem sw_3 (st blk v : List Int) : endC ΓA (swT st blk) 100 100 Tryz.f114 [] (swM st blk (.at (.exit 0)) swK ((stOf (swGs 10) (swTb v) 101 [] []).hint [])) =
  some { val := .tup [], wr := [(60, .own (((List.range 8).map fun i => bXor .u32 (st.getD i 0) (bXor .u32 (v.getD i 0) (v.getD (8 + i) 0))).map (.int false .u32)) 156)] } := by kernel_rfl
end Go.Proofs.YtjomfjihopegmaaGreatDoor.Sx
end
