/- pintleref8.press: runs. -/
import Derived.Test.YtjomfjihopegmaaGreatDoorQH
section
open Go
set_option maxRecDepth 100000
namespace Go.Proofs.YtjomfjihopegmaaGreatDoor.Sx
noncomputable def ΓP : Env := env exM 3
theorem ΓP_ty : TyOK Tryz.prog ΓP := env_ty exM 3
theorem ΓP_ok : SumsOK Tryz.prog ΓP := env_ok exM exM_ok 3
def ppVs (h : List Int) (n : Nat) (c : Int) (la : Bool) : List SV := [.ai .i64 h, .ros 61 n, .int false .i64 c, .bool true la]
def ppT (d : List Int) : Tab := fun l => look l [(61, .rov .u8 d)]
noncomputable def ppM (d : List Int) (cf : Cf) (K : List Fr) (s : St) : Option Cfg := mrun ΓP (cutT 100 (ppT d)) 100 Tryz.f71.ntmps [3, 23] 400 2000 cf K s
def ppGs (n : Nat) (c : Int) (la : Bool) (i : Int) : List (Nat × SV) := [(1, .ros 61 n), (2, .int false .i64 c), (3, .bool true la), (4, .ptr 100 true 0), (8, .ptr 101 true 0), (9, .ptr 102 true 0), (10, .int false .i64 i)]
def z8 : SB := .own (List.replicate 8 (.int true .i64 0)) 125
def ppTb (h m : List Int) : List (Nat × SB) := [(100, .ints .i64 h 125), (101, z8), (102, .ints .i64 m 178)]
noncomputable def ppR : Option Cfg := ppM [] (.go (codeOf Tryz.f71)) [] ((st0 (ppVs [] 0 0 false) 100).hint [])
noncomputable def ppL : Code := cfgC ppR
noncomputable def ppK : List Fr := cfgF ppR
def ppGs2 (r : Nat) : List (Nat × SV) := [(4, .ptr 100 true 0), (8, .ptr 101 true 0), (9, .ptr 102 true 0), (14, .ptr 103 true 0), (16, .int true .i64 r)]
def ppTb2 (h m v : List Int) : List (Nat × SB) := [(100, .own (intsV .i64 8 h) 125), (101, z8), (102, .ints .i64 m 178), (103, .ints .i64 v 178)]
def ppTb3 (h m v : List Int) : List (Nat × SB) := [(100, .own (intsV .i64 8 h) 125), (101, z8), (102, .ints .i64 m 178), (103, .own (intsV .i64 16 v) 178)]
def mulN : Nat → Int → Int
 | 0, x => x
 | n + 1, x => IntKind.i64.wrap (mulN n x * 256)
def pq (i : Int) : Int := IntKind.i64.wrap (i.tdiv 4)
theorem pp_0 (h m d : List Int) (n : Nat) (c i : Int) (la : Bool) : toC 100 Tryz.f71.ntmps (cutT 100 (ppT d)) [] (ppGs n c la i) (ppTb h m) 103 [] [] (ppM d (.go (codeOf Tryz.f71)) [] ((st0 (ppVs h n c la) 100).hint [])) =
  some (.go (.loop ppL), ppK, [n = n, c = c, 0 = i, h = h ∧ 125 = 125, List.replicate 16 0 = m ∧ 178 = 178]) := by cases la <;> kernel_rfl
theorem pp_r (h m d m' : List Int) (n : Nat) (c i i' : Int) (la : Bool) (k : Nat) (hk : k = 0 ∨ k = 1 ∨ k = 2 ∨ k = 3) : toC 100 Tryz.f71.ntmps (cutT 100 (ppT d)) [] (ppGs n c la i') (ppTb h m') 103 [] [] (ppM d (.go ppL) [] ((stOf (ppGs n c la i) (ppTb h m) 103 [] []).hint ([true, true] ++ (List.replicate k true ++ [false])))) =
  some (.at .normal, [], [0 + (pq i).toNat * 1 < m.length, 0 ≤ pq i ∧ pq i < 16, 0 + (pq i).toNat * 1 + 1 ≤ m.length, 0 ≤ pq i ∧ pq i < 16, decide ((k : Int) < i.tmod 4) = false] ++ ((List.range k).reverse.map (fun j : Nat => decide ((j : Int) < i.tmod 4) = true) ++
   [i.toNat < d.length, 0 ≤ i ∧ i < n, decide (i < 64) = true, decide (i < n) = true, n = n, c = c, IntKind.i64.wrap (i + 1) = i', h = h ∧ 125 = 125,
    m.set (0 + (pq i).toNat * 1) (IntKind.i64.wrap (m.getD (0 + (pq i).toNat * 1 + 0) 0 + mulN k (IntKind.i64.wrap (d.getD i.toNat 0)))) = m' ∧ 178 = 178])) := by
 rcases hk with rfl | rfl | rfl | rfl <;> cases la <;> kernel_rfl
theorem pp_3 (h m d : List Int) (n : Nat) (c i : Int) (la : Bool) : toC 100 Tryz.f71.ntmps (cutT 100 (ppT d)) [] (ppGs n c la i) (ppTb h m) 103 [] [] (ppM d (.go ppL) [] ((stOf (ppGs n c la i) (ppTb h m) 103 [] []).hint [false])) =
  some (.at (.exit 0), [], [decide (i < n) = false, n = n, c = c, i = i, h = h ∧ 125 = 125, m = m ∧ 178 = 178]) := by cases la <;> kernel_rfl
noncomputable def ppR2 : Option Cfg := ppM [] (.at (.exit 0)) ppK ((stOf (ppGs 0 0 false 0) (ppTb [] []) 103 [] []).hint [])
noncomputable def ppL2 : Code := cfgC ppR2
noncomputable def ppK2 : List Fr := cfgF ppR2
def laI (la : Bool) : Int := match la with
 | true => 4294967295
 | false => 0
theorem pp_4 (h m v d : List Int) (n : Nat) (c i : Int) (la : Bool) : toC 100 Tryz.f71.ntmps (cutT 100 (ppT d)) [] (ppGs2 0) (ppTb2 h m v) 104 [] [] (ppM d (.at (.exit 0)) ppK ((stOf (ppGs n c la i) (ppTb h m) 103 [] []).hint [])) =
  some (.go (.loop ppL2), ppK2, [8 ≤ h.length, 7 ≤ h.length, 6 ≤ h.length, 5 ≤ h.length, 4 ≤ h.length, 3 ≤ h.length, 2 ≤ h.length, 1 ≤ h.length, h = bytesI 8 h ∧ 125 = 125, m = m ∧ 178 = 178, R8.start h c (laI la) = v ∧ 178 = 178]) := by cases la <;> kernel_rfl
def R8.p1 (v m : List Int) (s : List Nat) : List Int := R8.mix v 0 4 8 12 (m.getD (s.getD 0 0) 0) (m.getD (s.getD 1 0) 0)
def R8.p2 (v m : List Int) (s : List Nat) : List Int := R8.mix (R8.p1 v m s) 1 5 9 13 (m.getD (s.getD 2 0) 0) (m.getD (s.getD 3 0) 0)
def R8.p3 (v m : List Int) (s : List Nat) : List Int := R8.mix (R8.p2 v m s) 2 6 10 14 (m.getD (s.getD 4 0) 0) (m.getD (s.getD 5 0) 0)
def R8.p4 (v m : List Int) (s : List Nat) : List Int := R8.mix (R8.p3 v m s) 3 7 11 15 (m.getD (s.getD 6 0) 0) (m.getD (s.getD 7 0) 0)
def R8.p5 (v m : List Int) (s : List Nat) : List Int := R8.mix (R8.p4 v m s) 0 5 10 15 (m.getD (s.getD 8 0) 0) (m.getD (s.getD 9 0) 0)
def R8.p6 (v m : List Int) (s : List Nat) : List Int := R8.mix (R8.p5 v m s) 1 6 11 12 (m.getD (s.getD 10 0) 0) (m.getD (s.getD 11 0) 0)
def R8.p7 (v m : List Int) (s : List Nat) : List Int := R8.mix (R8.p6 v m s) 2 7 8 13 (m.getD (s.getD 12 0) 0) (m.getD (s.getD 13 0) 0)
def R8.p8 (v m : List Int) (s : List Nat) : List Int := R8.mix (R8.p7 v m s) 3 4 9 14 (m.getD (s.getD 14 0) 0) (m.getD (s.getD 15 0) 0)
theorem R8.p8_eq (v m : List Int) (s : List Nat) : R8.p8 v m s = R8.roundM v m s := rfl
def rdO (v m v' : List Int) (s : List Nat) (e : Prop) : List Prop := [
 (R8.p8 v m s).length = 16 ∧ (R8.p7 v m s).length = 16, (R8.p7 v m s).length = 16, R8.p7 v m s = R8.p7 v m s, m.getD (s.getD 14 0) 0 = m.getD (s.getD 14 0) 0, m.getD (s.getD 15 0) 0 = m.getD (s.getD 15 0) 0, (R8.p7 v m s).length = 16, (s.getD 15 0) + 1 ≤ m.length, (s.getD 14 0) + 1 ≤ m.length,
 (R8.p7 v m s).length = 16 ∧ (R8.p6 v m s).length = 16, (R8.p6 v m s).length = 16, R8.p6 v m s = R8.p6 v m s, m.getD (s.getD 12 0) 0 = m.getD (s.getD 12 0) 0, m.getD (s.getD 13 0) 0 = m.getD (s.getD 13 0) 0, (R8.p6 v m s).length = 16, (s.getD 13 0) + 1 ≤ m.length, (s.getD 12 0) + 1 ≤ m.length,
 (R8.p6 v m s).length = 16 ∧ (R8.p5 v m s).length = 16, (R8.p5 v m s).length = 16, R8.p5 v m s = R8.p5 v m s, m.getD (s.getD 10 0) 0 = m.getD (s.getD 10 0) 0, m.getD (s.getD 11 0) 0 = m.getD (s.getD 11 0) 0, (R8.p5 v m s).length = 16, (s.getD 11 0) + 1 ≤ m.length, (s.getD 10 0) + 1 ≤ m.length,
 (R8.p5 v m s).length = 16 ∧ (R8.p4 v m s).length = 16, (R8.p4 v m s).length = 16, R8.p4 v m s = R8.p4 v m s, m.getD (s.getD 8 0) 0 = m.getD (s.getD 8 0) 0, m.getD (s.getD 9 0) 0 = m.getD (s.getD 9 0) 0, (R8.p4 v m s).length = 16, (s.getD 9 0) + 1 ≤ m.length, (s.getD 8 0) + 1 ≤ m.length,
 (R8.p4 v m s).length = 16 ∧ (R8.p3 v m s).length = 16, (R8.p3 v m s).length = 16, R8.p3 v m s = R8.p3 v m s, m.getD (s.getD 6 0) 0 = m.getD (s.getD 6 0) 0, m.getD (s.getD 7 0) 0 = m.getD (s.getD 7 0) 0, (R8.p3 v m s).length = 16, (s.getD 7 0) + 1 ≤ m.length, (s.getD 6 0) + 1 ≤ m.length,
 (R8.p3 v m s).length = 16 ∧ (R8.p2 v m s).length = 16, (R8.p2 v m s).length = 16, R8.p2 v m s = R8.p2 v m s, m.getD (s.getD 4 0) 0 = m.getD (s.getD 4 0) 0, m.getD (s.getD 5 0) 0 = m.getD (s.getD 5 0) 0, (R8.p2 v m s).length = 16, (s.getD 5 0) + 1 ≤ m.length, (s.getD 4 0) + 1 ≤ m.length,
 (R8.p2 v m s).length = 16 ∧ (R8.p1 v m s).length = 16, (R8.p1 v m s).length = 16, R8.p1 v m s = R8.p1 v m s, m.getD (s.getD 2 0) 0 = m.getD (s.getD 2 0) 0, m.getD (s.getD 3 0) 0 = m.getD (s.getD 3 0) 0, (R8.p1 v m s).length = 16, (s.getD 3 0) + 1 ≤ m.length, (s.getD 2 0) + 1 ≤ m.length,
 (R8.p1 v m s).length = 16 ∧ (v).length = 16, (v).length = 16, v = v, m.getD (s.getD 0 0) 0 = m.getD (s.getD 0 0) 0, m.getD (s.getD 1 0) 0 = m.getD (s.getD 1 0) 0, (v).length = 16, (s.getD 1 0) + 1 ≤ m.length, (s.getD 0 0) + 1 ≤ m.length,
 e, m = m ∧ 178 = 178, R8.p8 v m s = v' ∧ 178 = 178]
theorem pp_50 (h m v v' d : List Int) : toC 100 Tryz.f71.ntmps (cutT 100 (ppT d)) [] (ppGs2 1) (ppTb2 h m v') 104 [] [] (ppM d (.go ppL2) [] ((stOf (ppGs2 0) (ppTb2 h m v) 104 [] []).hint [])) =
  some (.at .normal, [], rdO v m v' (D.orders.getD 0 []) (bytesI 8 h = bytesI 8 h)) := by kernel_rfl
theorem pp_51 (h m v v' d : List Int) : toC 100 Tryz.f71.ntmps (cutT 100 (ppT d)) [] (ppGs2 2) (ppTb2 h m v') 104 [] [] (ppM d (.go ppL2) [] ((stOf (ppGs2 1) (ppTb2 h m v) 104 [] []).hint [])) =
  some (.at .normal, [], rdO v m v' (D.orders.getD 1 []) (bytesI 8 h = bytesI 8 h)) := by kernel_rfl
theorem pp_52 (h m v v' d : List Int) : toC 100 Tryz.f71.ntmps (cutT 100 (ppT d)) [] (ppGs2 3) (ppTb2 h m v') 104 [] [] (ppM d (.go ppL2) [] ((stOf (ppGs2 2) (ppTb2 h m v) 104 [] []).hint [])) =
  some (.at .normal, [], rdO v m v' (D.orders.getD 2 []) (bytesI 8 h = bytesI 8 h)) := by kernel_rfl
theorem pp_53 (h m v v' d : List Int) : toC 100 Tryz.f71.ntmps (cutT 100 (ppT d)) [] (ppGs2 4) (ppTb2 h m v') 104 [] [] (ppM d (.go ppL2) [] ((stOf (ppGs2 3) (ppTb2 h m v) 104 [] []).hint [])) =
  some (.at .normal, [], rdO v m v' (D.orders.getD 3 []) (bytesI 8 h = bytesI 8 h)) := by kernel_rfl
theorem pp_54 (h m v v' d : List Int) : toC 100 Tryz.f71.ntmps (cutT 100 (ppT d)) [] (ppGs2 5) (ppTb2 h m v') 104 [] [] (ppM d (.go ppL2) [] ((stOf (ppGs2 4) (ppTb2 h m v) 104 [] []).hint [])) =
  some (.at .normal, [], rdO v m v' (D.orders.getD 4 []) (bytesI 8 h = bytesI 8 h)) := by kernel_rfl
theorem pp_55 (h m v v' d : List Int) : toC 100 Tryz.f71.ntmps (cutT 100 (ppT d)) [] (ppGs2 6) (ppTb2 h m v') 104 [] [] (ppM d (.go ppL2) [] ((stOf (ppGs2 5) (ppTb2 h m v) 104 [] []).hint [])) =
  some (.at .normal, [], rdO v m v' (D.orders.getD 5 []) (bytesI 8 h = bytesI 8 h)) := by kernel_rfl
theorem pp_56 (h m v v' d : List Int) : toC 100 Tryz.f71.ntmps (cutT 100 (ppT d)) [] (ppGs2 7) (ppTb2 h m v') 104 [] [] (ppM d (.go ppL2) [] ((stOf (ppGs2 6) (ppTb2 h m v) 104 [] []).hint [])) =
  some (.at .normal, [], rdO v m v' (D.orders.getD 6 []) (bytesI 8 h = bytesI 8 h)) := by kernel_rfl
theorem pp_57 (h m v v' d : List Int) : toC 100 Tryz.f71.ntmps (cutT 100 (ppT d)) [] (ppGs2 8) (ppTb2 h m v') 104 [] [] (ppM d (.go ppL2) [] ((stOf (ppGs2 7) (ppTb2 h m v) 104 [] []).hint [])) =
  some (.at .normal, [], rdO v m v' (D.orders.getD 7 []) (bytesI 8 h = bytesI 8 h)) := by kernel_rfl
theorem pp_58 (h m v v' d : List Int) : toC 100 Tryz.f71.ntmps (cutT 100 (ppT d)) [] (ppGs2 9) (ppTb2 h m v') 104 [] [] (ppM d (.go ppL2) [] ((stOf (ppGs2 8) (ppTb2 h m v) 104 [] []).hint [])) =
  some (.at .normal, [], rdO v m v' (D.orders.getD 8 []) (bytesI 8 h = bytesI 8 h)) := by kernel_rfl
theorem pp_59 (h m v v' d : List Int) : toC 100 Tryz.f71.ntmps (cutT 100 (ppT d)) [] (ppGs2 10) (ppTb2 h m v') 104 [] [] (ppM d (.go ppL2) [] ((stOf (ppGs2 9) (ppTb2 h m v) 104 [] []).hint [])) =
  some (.at .normal, [], rdO v m v' (D.orders.getD 9 []) (bytesI 8 h = bytesI 8 h)) := by kernel_rfl
theorem pp_6 (h m v d : List Int) : toC 100 Tryz.f71.ntmps (cutT 100 (ppT d)) [] (ppGs2 10) (ppTb3 h m v) 104 [] [] (ppM d (.go ppL2) [] ((stOf (ppGs2 10) (ppTb2 h m v) 104 [] []).hint [])) =
  some (.at (.exit 6), [], [bytesI 8 h = bytesI 8 h, m = m ∧ 178 = 178, v = bytesI 16 v ∧ 178 = 178]) := by kernel_rfl
theorem pp_7 (h m v d : List Int) : endC ΓP (ppT d) 100 100 Tryz.f71 [] (ppM d (.at (.exit 6)) ppK2 ((stOf (ppGs2 10) (ppTb3 h m v) 104 [] []).hint [])) =
  some { val := .agg (((List.range 8).map fun i => bXor .i64 (bXor .i64 (h.getD i 0) (v.getD i 0)) (v.getD (8 + i) 0)).map (.int false .i64)) } := by kernel_rfl
end Go.Proofs.YtjomfjihopegmaaGreatDoor.Sx
end
