/- KdfPieces: runs. -/
import Derived.Test.YtdhombdiakjdhaaGreatDoorQP
section
open Go
set_option maxRecDepth 100000
namespace Go.Proofs.YtdhombdiakjdhaaGreatDoor.Sx

noncomputable def exK1 : Nat → Option Sum := addS exA 7 (canonS globs 100 knDec)
noncomputable def exK2 : Nat → Option Sum := addS exK1 9 (canonS globs 100 twDec)
noncomputable def exK3 : Nat → Option Sum := addS exK2 11 (canonS globs 100 hqDec)
noncomputable def exK4 : Nat → Option Sum := addS exK3 13 (canonS globs 100 rdDec)
noncomputable def exK5 : Nat → Option Sum := addS exK4 15 (canonS globs 100 h8Dec)
noncomputable def exK : Nat → Option Sum := addS exK5 16 (canonS globs 100 thDec)
theorem exK_ok : ∀ f S, exK f = some S → ∀ Γ : Env, Γ.glob = globs → SumOK Tryz.prog Γ f S :=
  addS_ok (addS_ok (addS_ok (addS_ok (addS_ok (addS_ok (fun f S h Γ _ => exA_ok f S h Γ) 7 _ kn_ok) 9 _ twd_ok) 11 _ hqd_ok) 13 _ rd_ok) 15 _ h8_ok) 16 _ thd_ok
noncomputable def ΓK : Env := env exK 4
def f4Vs (n m k : Nat) (eng : Bool) : List SV := [.ros 61 n, .ros 62 m, .ros 63 k, .bool false eng]
def f4L (key data cuts : List Int) : List (Nat × SB) := (61, .rov .u8 key) :: (62, .rof data) :: (63, .rov .i64 cuts) :: glB
def f4T (key data cuts : List Int) : Tab := fun l => look l (f4L key data cuts)

noncomputable def f4M (key data cuts : List Int) (cf : Cf) (K : List Fr) (s : St) : Option Cfg := mrun ΓK (cutT 100 (f4T key data cuts)) 100 Tryz.f4.ntmps [9, 28] 400 3000 cf K s
/-- The engine of the law's choice, its Recorder by name. -/
def egV : Bool → List SV
  | true => fastV 103
  | false => engV .plain
def egL : Bool → List (Nat × SB)
  | true => [(103, .own [.raw (.pointer none)] 53)]
  | false => []
def egN : Bool → Nat
  | true => 104
  | false => 103
def f4Gs (n m k p r : Nat) (i : Int) : List (Nat × SV) := [(0, .ros 61 n), (1, .ros 62 m), (2, .ros 63 k), (9, .ptr 100 true 0), (10, .rsl 101 p), (11, .ros 102 r), (12, .int false .i64 i)]
def f4Tb (e : Bool) (ds : List (List Int)) (rest : List Int) : List (Nat × SB) := (100, .own (egV e) 33) :: (101, .rowl ds 22) :: (102, .rof rest) :: egL e
noncomputable def f4R : Option Cfg := f4M [] [] [] (.go (codeOf Tryz.f4)) [] ((st0 (f4Vs 0 0 0 false) 100).hint [false, false, false, false])
noncomputable def f4Lp : Code := cfgC f4R
noncomputable def f4K : List Fr := cfgF f4R
def egW : Bool → List SV
  | true => fastV 102
  | false => engV .plain
def egX : Bool → List (Nat × SB)
  | true => [(102, .own [.raw (.pointer none)] 53)]
  | false => []
def egM : Bool → Nat
  | true => 103
  | false => 102
def f4Hs (n m : Nat) (i : Int) : List (Nat × SV) := [(0, .ros 61 n), (1, .ros 62 m), (9, .ptr 100 true 0), (17, .ptr 101 true 0), (18, .int false .i64 i)]
def f4Tc (e : Bool) (c : List Int) : List (Nat × SB) := (100, .own (egW e) 33) :: (101, .ints .u8 c 24) :: egX e
noncomputable def f4R2 : Option Cfg := f4M [] [] [] (.at (.exit 0)) f4K ((stOf (f4Gs 0 0 0 0 0 0) (f4Tb false [] []) (egN false) [] []).hint [false, false, false])
noncomputable def f4Lq : Code := cfgC f4R2
noncomputable def f4Kq : List Fr := cfgF f4R2
theorem f4_0 (key data cuts : List Int) (e : Bool) (n m k : Nat) : interp ΓK Tryz.f4 true [true] 3000 (f4Vs n m k e) (f4T key data cuts) 100 100 =
    some { obl := [decide ((n : Int) > 20000) = true], val := .bool true true } := by cases e <;> kernel_rfl
theorem f4_1 (key data cuts : List Int) (e : Bool) (n m k : Nat) : interp ΓK Tryz.f4 true [false, true] 3000 (f4Vs n m k e) (f4T key data cuts) 100 100 =
    some { obl := [decide ((m : Int) > 20000) = true, decide ((n : Int) > 20000) = false], val := .bool true true } := by cases e <;> kernel_rfl
theorem f4_2 (key data cuts : List Int) (e : Bool) (n m k : Nat) : interp ΓK Tryz.f4 true [false, false, true] 3000 (f4Vs n m k e) (f4T key data cuts) 100 100 =
    some { obl := [decide ((k : Int) > 200) = true, decide ((m : Int) > 20000) = false, decide ((n : Int) > 20000) = false], val := .bool true true } := by cases e <;> kernel_rfl
theorem f4_3 (e : Bool) (key data cuts rest : List Int) (ds : List (List Int)) (n m k p r : Nat) (i : Int) : toC 100 Tryz.f4.ntmps (cutT 100 (f4T key data cuts)) [.nill 10 22, .alo 11] (f4Gs n m k p r i) (f4Tb e ds rest) (egN e) [] [] (f4M key data cuts (.go (codeOf Tryz.f4)) [] ((st0 (f4Vs n m k e) 100).hint [false, false, false, e])) =
    some (.go (.loop f4Lp), f4K, [e = e, decide ((k : Int) > 200) = false, decide ((m : Int) > 20000) = false, decide ((n : Int) > 20000) = false, n = n, m = m, k = k, 0 = p, m = r, 0 = i, [] = ds, data = rest]) := by cases e <;> kernel_rfl
/-- Where the rest is cut. -/
def f4C (cuts : List Int) (i : Int) (r : Nat) : Int := D.rnd (cuts.getD i.toNat 0) (IntKind.i64.wrap ((r : Int) + 1))
theorem f4_4 (e : Bool) (key data cuts rest rest' : List Int) (ds ds' : List (List Int)) (n m k p r p' r' : Nat) (i i' : Int) : toC 100 Tryz.f4.ntmps (cutT 100 (f4T key data cuts)) [] (f4Gs n m k p' r' i') (f4Tb e ds' rest') (egN e) [] [] (f4M key data cuts (.go f4Lp) [] ((stOf (f4Gs n m k p r i) (f4Tb e ds rest) (egN e) [] []).hint [true])) =
    some (.at .normal, [], [0 ≤ f4C cuts i r ∧ f4C cuts i r ≤ (r : Int) ∧ (r : Int) ≤ r, (p + 2) * 24 ≤ 140737488355328 ∧ p + 2 ≤ 9223372036854775807, (0 : Int) ≤ 0 ∧ 0 ≤ f4C cuts i r ∧ f4C cuts i r ≤ (r : Int),
      0 < IntKind.i64.wrap ((r : Int) + 1), IntKind.i64.wrap ((r : Int) + 1) ≤ 1000000, cuts.getD i.toNat 0 = cuts.getD i.toNat 0, IntKind.i64.wrap ((r : Int) + 1) = IntKind.i64.wrap ((r : Int) + 1), i.toNat < cuts.length, 0 ≤ i ∧ i < (k : Int), decide (i < (k : Int)) = true, n = n, m = m, k = k,
      p + 2 = p', (r : Int).toNat - (f4C cuts i r).toNat = r', IntKind.i64.wrap (i + 1) = i', ds ++ [((rest.drop 0).take ((f4C cuts i r).toNat - 0)), []] = ds', (rest.drop (f4C cuts i r).toNat).take ((r : Int).toNat - (f4C cuts i r).toNat) = rest']) := by cases e <;> kernel_rfl
theorem f4_5 (e : Bool) (key data cuts rest : List Int) (ds : List (List Int)) (n m k p r : Nat) (i : Int) : toC 100 Tryz.f4.ntmps (cutT 100 (f4T key data cuts)) [] (f4Gs n m k p r i) (f4Tb e ds rest) (egN e) [] [] (f4M key data cuts (.go f4Lp) [] ((stOf (f4Gs n m k p r i) (f4Tb e ds rest) (egN e) [] []).hint [false])) =
    some (.at (.exit 0), [], [decide (i < (k : Int)) = false, n = n, m = m, k = k, p = p, r = r, i = i, ds = ds, rest = rest]) := by cases e <;> kernel_rfl
def f4h (key data : List Int) : List Int := D.hmac key [data].flatten
def f4g (key rest : List Int) (ds : List (List Int)) : List Int := D.hmac key (ds ++ [rest]).flatten
/-- What is owed for a digest of some pieces. -/
def hO (x : List Int) (k n p : Nat) (key : List Int) (ds : List (List Int)) (r : List Prop) : List Prop :=
  (x.length = 32) :: (key.length ≤ 1000000000) :: (ds.length ≤ 100000000) :: (ds.flatten.length ≤ 10000000000) :: (n = n) :: (k = key.length) :: (p = ds.length) :: (key = key) :: (ds = ds) :: r
def f4O (key data rest c : List Int) (ds : List (List Int)) (n m p : Nat) (j : Int) : List Prop :=
  ((!decide (f4g key rest ds = f4h key data)) = false) :: ((f4g key rest ds).length = 32 ∧ (f4h key data).length = 32) :: ((f4h key data).length = 32) ::
    (key.length ≤ 1000000000) :: ((ds ++ [rest]).length ≤ 100000000) :: ((ds ++ [rest]).flatten.length ≤ 10000000000) :: (n = n) :: (key.length = key.length) :: (p + 1 = (ds ++ [rest]).length) :: (key = key) :: (ds ++ [rest] = ds ++ [rest]) ::
    ((f4h key data).length = 32) :: (key.length ≤ 1000000000) :: ([data].length ≤ 100000000) :: ([data].flatten.length ≤ 10000000000) :: (n = n) :: (key.length = key.length) :: (1 = [data].length ∧ 1 ≤ 1) :: (key = key) :: ([data] = [data]) ::
    ((p + 1) * 24 ≤ 140737488355328 ∧ p + 1 ≤ 9223372036854775807) :: (n = n) :: (m = m) :: (0 = j) :: (List.replicate 32 0 = c ∧ 24 = 24) :: []
theorem f4_6 (e : Bool) (key data cuts rest c : List Int) (ds : List (List Int)) (n m k p r : Nat) (i j : Int) : toC 100 Tryz.f4.ntmps (cutT 100 (f4T key data cuts)) [] (f4Hs n m j) (f4Tc e c) (egM e) [] [] (f4M key data cuts (.at (.exit 0)) f4K ((stOf (f4Gs n m k p r i) (f4Tb e ds rest) (egN e) [] []).hint [false, false, false])) =
    some (.go (.loop f4Lq), f4Kq, (decide ((n : Int) < 64) = false) :: (decide ((n : Int) > 64) = false) :: f4O key data rest c ds n m p j) := by cases e <;> kernel_rfl
def kH (key : List Int) : List Int := (D.hash key |>.drop 0).take 32
theorem f4_7 (e : Bool) (key data cuts rest c : List Int) (ds : List (List Int)) (n m k p r : Nat) (i j : Int) : toC 100 Tryz.f4.ntmps (cutT 100 (f4T key data cuts)) [] (f4Hs n m j) (f4Tc e c) (egM e) [] [] (f4M key data cuts (.at (.exit 0)) f4K ((stOf (f4Gs n m k p r i) (f4Tb e ds rest) (egN e) [] []).hint [false, true, false, false])) =
    some (.go (.loop f4Lq), f4Kq, (decide ((n : Int) < 64) = false) :: ((!decide (f4h (kH key) data = f4h key data)) = false) :: ((f4h (kH key) data).length = 32 ∧ (f4h key data).length = 32) :: ((f4h key data).length = 32) ::
      ((kH key).length ≤ 1000000000) :: ([data].length ≤ 100000000) :: ([data].flatten.length ≤ 10000000000) :: (32 ≤ (D.hash key).length ∧ 32 ≤ 32) :: ((kH key).length = (kH key).length) :: (1 = [data].length ∧ 1 ≤ 1) :: (kH key = kH key) :: (32 ≤ (D.hash key).length ∧ 32 ≤ 32) :: ([data] = [data]) ::
      ((D.hash key).length = 32) :: Bts key :: (key.length ≤ 1000000000) :: (n = n) :: (key.length = key.length) :: (key = key) :: (decide ((n : Int) > 64) = true) :: f4O key data rest c ds n m p j) := by cases e <;> kernel_rfl
def kZ (key : List Int) : List Int := [].take 0 ++ key ++ [0]
theorem f4_8 (e : Bool) (key data cuts rest c : List Int) (ds : List (List Int)) (n m k p r : Nat) (i j : Int) : toC 100 Tryz.f4.ntmps (cutT 100 (f4T key data cuts)) [] (f4Hs n m j) (f4Tc e c) (egM e) [] [] (f4M key data cuts (.at (.exit 0)) f4K ((stOf (f4Gs n m k p r i) (f4Tb e ds rest) (egN e) [] []).hint [false, false, true, false])) =
    some (.go (.loop f4Lq), f4Kq, ((!decide (f4h (kZ key) data = f4h key data)) = false) :: ((f4h (kZ key) data).length = 32 ∧ (f4h key data).length = 32) :: ((f4h key data).length = 32) ::
      ((kZ key).length ≤ 1000000000) :: ([data].length ≤ 100000000) :: ([data].flatten.length ≤ 10000000000) :: ((kZ key).length = (kZ key).length) :: (1 = [data].length ∧ 1 ≤ 1) :: (kZ key = kZ key) :: ([data] = [data]) ::
      ((([].take 0 ++ key).length + 1) * 1 ≤ 140737488355328) :: ((0 + key.length) * 1 ≤ 140737488355328) :: (decide ((n : Int) < 64) = true) :: (decide ((n : Int) > 64) = false) :: f4O key data rest c ds n m p j) := by cases e <;> kernel_rfl
theorem f4_9 (e : Bool) (key data cuts c c' : List Int) (n m : Nat) (j j' : Int) : toC 100 Tryz.f4.ntmps (cutT 100 (f4T key data cuts)) [] (f4Hs n m j') (f4Tc e c') (egM e) [] [] (f4M key data cuts (.go f4Lq) [] ((stOf (f4Hs n m j) (f4Tc e c) (egM e) [] []).hint [true, true])) =
    some (.at .normal, [], [0 + j.toNat * 1 < c.length, 0 ≤ j ∧ j < 32, j.toNat < key.length, 0 ≤ j ∧ j < (n : Int), decide (j < (n : Int)) = true, decide (j < 32) = true, n = n, m = m, IntKind.i64.wrap (j + 1) = j', c.set (0 + j.toNat * 1) (key.getD j.toNat 0) = c' ∧ 24 = 24]) := by cases e <;> kernel_rfl
theorem f4_10 (e : Bool) (key data cuts c : List Int) (n m : Nat) (j : Int) : toC 100 Tryz.f4.ntmps (cutT 100 (f4T key data cuts)) [] (f4Hs n m j) (f4Tc e c) (egM e) [] [] (f4M key data cuts (.go f4Lq) [] ((stOf (f4Hs n m j) (f4Tc e c) (egM e) [] []).hint [true, false])) =
    some (.at (.exit 2), [], [decide (j < (n : Int)) = false, decide (j < 32) = true, n = n, m = m, j = j, c = c ∧ 24 = 24]) := by cases e <;> kernel_rfl
theorem f4_11 (e : Bool) (key data cuts c : List Int) (n m : Nat) (j : Int) : toC 100 Tryz.f4.ntmps (cutT 100 (f4T key data cuts)) [] (f4Hs n m j) (f4Tc e c) (egM e) [] [] (f4M key data cuts (.go f4Lq) [] ((stOf (f4Hs n m j) (f4Tc e c) (egM e) [] []).hint [false])) =
    some (.at (.exit 2), [], [decide (j < 32) = false, n = n, m = m, j = j, c = c ∧ 24 = 24]) := by cases e <;> kernel_rfl
theorem f4_12 (e : Bool) (key data cuts c : List Int) (n m : Nat) (j : Int) : endC ΓK (f4T key data cuts) 100 100 Tryz.f4 [] (f4M key data cuts (.at (.exit 2)) f4Kq ((stOf (f4Hs n m j) (f4Tc e c) (egM e) [] []).hint [true, true])) =
    some { obl := [decide (D.kb c data = D.kb c data) = true, (D.kb c data).length = 32 ∧ (D.kb c data).length = 32, (D.kb c data).length = 32, (D.kb c data).length = 32, decide (D.ka c data = D.ka c data) = true, (D.ka c data).length = 32 ∧ (D.ka c data).length = 32, (D.ka c data).length = 32, (D.ka c data).length = 32, (D.kc c data).length = 32, (D.kb c data).length = 32, (D.ka c data).length = 32, c.length = 32, data.length ≤ 1000000000, c = c, m = m, data.length = data.length, data = data, c.length = 32, (D.kb c data).length = 32, (D.ka c data).length = 32, c.length = 32, data.length ≤ 1000000000, c = c, m = m, data.length = data.length, data = data, c.length = 32], val := .bool true true } := by cases e <;> kernel_rfl
end Go.Proofs.YtdhombdiakjdhaaGreatDoor.Sx
end
