/- The statement of GramOfNothing: for every list of bytes and every number the law answers true, and the list reads as it did. Conditions: the listed package-level variables hold what the program's text lays (the card ties them). -/
import Derived.Test.YtaibhjpgbckbkaaGreatDoorLaw
import Derived.Test.YtaibhjpgbckbkaaGreatDoorCards
import Derived.Test.YtaibhjpgbckbkaaGreatDoorTie
import Derived.ProofKit
import Derived.OpenShut
import Derived.Below
import Derived.LaidLaws
import Derived.Lay
import Derived.MakeChecks
import Derived.Deep.DeepHandedRow
import Derived.Deep.DeepWitnessRowRef
import Derived.Lib.LaidTab
import Derived.Stop.ErrReads
open Go
set_option maxRecDepth 100000
namespace Go.Proofs.YtaibhjpgbckbkaaGreatDoor.Gram
open Go.ChangeShapes Go.WideShapes Go.ChangeAt Go.RowKit Go.Proofs.YtaibhjpgbckbkaaGreatDoor.Sx

/-! ### What is listed, variable by variable -/

theorem laid_var {P : Program} {W : World} : ∀ {laid : List (String × DataW Unit)} {ps : List MemPlace}, DataW.LaidVars P W laid ps → ∀ name d, (name, d) ∈ laid →
    ∃ g t cs fuel p, P.globalNamed name = some g ∧ (P.globals[g]?).map (·.type) = some t ∧ W.var? P name = some cs ∧ DataW.trod (fun _ => ()) P W 0 (fun _ => true) false fuel t cs.toList = some (d, p) ∧ ∀ x ∈ MemPlace.row ⟨g, 0, none⟩ cs.size ++ p, x ∈ ps
  | [], _, _, _, _, h => by cases h
  | (n, d0) :: r, ps, hl, name, d, h => by
    obtain ⟨g, t, cs, fuel, p, q, h1, h2, h3, h4, h5, rfl⟩ := hl
    rcases List.mem_cons.1 h with e | h
    · cases e
      exact ⟨g, t, cs, fuel, p, h1, h2, h3, h4, fun x hx => List.mem_append_left _ hx⟩
    · obtain ⟨g', t', cs', fuel', p', k1, k2, k3, k4, k5⟩ := laid_var h5 name d h
      exact ⟨g', t', cs', fuel', p', k1, k2, k3, k4, fun x hx => List.mem_append_right _ (k5 x hx)⟩

/-- An array of arrays of integers, cell by cell. -/
theorem cells_of_rows {P : Program} {W : World} {fuel : Nat} {t e c : TypeId} {n m : Nat} {k : IntKind} {cs : List Value} {zss : List (List Int)} {p : List MemPlace}
    (ht : P.underlying t = some (.array n e)) (he : P.underlying e = some (.array m c)) (hc : P.underlying c = some (.int k)) (hcc : P.cellsOf c = 1) (hce : P.cellsOf e = m)
    (h : DataW.trod (fun _ => ()) P W 0 (fun _ => true) false fuel t cs = some (.agg (zss.map fun zs => Lib.tabData k zs), p)) (i j : Nat) (zs : List Int) (z : Int) (hi : zss[i]? = some zs) (hj : zs[j]? = some z) (hjm : j < m) :
    cs[i * m + j]? = some (.int k z) := by
  obtain ⟨xs, f, _, hx, hlen, hn, hel⟩ := DataW.trod_array ht h
  simp only [Prod.mk.injEq, DataW.agg.injEq] at hx
  have hin : i < n := by
    have h1 := (List.getElem?_eq_some_iff.1 hi).1
    have h2 := congrArg List.length hx.1
    simp only [List.length_map] at h2
    omega
  have hrow := hel i hin
  have hxi : (xs.map (·.1))[i]? = some (Lib.tabData k zs) := by rw [← hx.1, List.getElem?_map, hi]; rfl
  rw [List.getElem?_map] at hxi
  obtain ⟨y, hy, hy2⟩ := Option.map_eq_some_iff.1 hxi
  rw [hy] at hrow
  obtain ⟨d, q⟩ := y
  simp only at hy2
  subst hy2
  rw [hce] at hrow
  have := Lib.cells_of_tab he hc hcc hce hrow
  have h3 := congrArg (·[j]?) this
  simp only [List.getElem?_take, List.getElem?_drop, List.getElem?_map, hj, Option.map_some, if_pos hjm] at h3
  exact h3

theorem row367 (u : TypeId) (h : Tryz.prog.typeName? 3 u = some "*errors.errorString") : u = 367 :=
  typeName_ptr_named (nm := "errors.errorString") (by rw [show "*" ++ "errors.errorString" = "*errors.errorString" by decide]; kernel_rfl) (by kernel_rfl) (by decide) u (by rw [show "*" ++ "errors.errorString" = "*errors.errorString" by decide]; exact h)

theorem cells388 : Tryz.prog.cellsOf 388 = 1 := by kernel_rfl
theorem cells9 : Tryz.prog.cellsOf 9 = 1 := by kernel_rfl

/-- An error that is listed: its cell holds a pointer. -/
theorem err_cell {W : World} {laid : List (String × DataW Unit)} (h : laidMet Tryz.prog laid W) (name : String) (text : List UInt8) (g : Nat) (hm : (name, DataW.iface "*errors.errorString" (.ptr (.agg [.lit (.string text)]))) ∈ laid)
    (hg : Tryz.prog.globalNamed name = some g) (ht : (Tryz.prog.globals[g]?).map (·.type) = some 55) :
    ∃ b off, W.cell? ⟨g, 0, none⟩ = some (.iface 367 (.pointer (some ⟨b, off, none⟩))) := by
  obtain ⟨ps, hl, _, hrows⟩ := h
  obtain ⟨g', t', cs, fuel, p, h1, h2, h3, h4, h5⟩ := laid_var hl name _ hm
  obtain rfl := Option.some.inj (hg.symm.trans h1)
  obtain rfl := Option.some.inj (ht.symm.trans h2)
  obtain ⟨l⟩ := cs
  have ok : ∀ u v, l = [.iface u v] → Value.okWide Tryz.prog W .any 0 u v := fun u v e => by
    subst e
    exact (hrows g 0 (h5 _ (by simp [MemPlace.row]))).2 u v (by simpa using World.var?_cell hg h3 0)
  obtain ⟨a, s, rfl, hc, _⟩ := errorString_of_trod Tryz.underlying55 row367 Tryz.underlying367 Tryz.underlying388 rfl rfl Tryz.underlying9 cells388 cells9 h4 ok
  obtain ⟨b, off, spot⟩ := a
  have hspot : spot = none := World.cell?_spot hc
  subst hspot
  exact ⟨b, off, by simpa using World.var?_cell hg h3 0⟩

/-- A number that is listed. -/
theorem int_cell {W : World} {laid : List (String × DataW Unit)} (h : laidMet Tryz.prog laid W) (name : String) (z : Int) (g : Nat) (hm : (name, DataW.lit (.int .i64 z)) ∈ laid)
    (hg : Tryz.prog.globalNamed name = some g) (ht : (Tryz.prog.globals[g]?).map (·.type) = some 3) : W.cell? ⟨g, 0, none⟩ = some (.int .i64 z) := by
  obtain ⟨ps, hl, _, _⟩ := h
  obtain ⟨g', t', cs, fuel, p, h1, h2, h3, h4, _⟩ := laid_var hl name _ hm
  obtain rfl := Option.some.inj (hg.symm.trans h1)
  obtain rfl := Option.some.inj (ht.symm.trans h2)
  obtain ⟨k, e1, e2, _⟩ := DataW.trod_int Tryz.underlying3 h4
  simp only [Prod.mk.injEq, DataW.lit.injEq, Lit.int.injEq, true_and] at e2
  obtain ⟨rfl, _⟩ := e2
  have := World.var?_cell hg h3 0
  obtain ⟨l⟩ := cs
  simp only at e1
  subst e1
  simpa using this

theorem begin_cells {W : World} {laid : List (String × DataW Unit)} (h : laidMet Tryz.prog laid W) (hm : ("pintle/slow.begin", Lib.tabData .u32 [1634760805, 857760878, 2036477234, 1797285236]) ∈ laid) (j : Nat) (z : Int)
    (hj : ([1634760805, 857760878, 2036477234, 1797285236] : List Int)[j]? = some z) : W.cell? ⟨10, j, none⟩ = some (.int .u32 z) := by
  obtain ⟨ps, hl, _, _⟩ := h
  obtain ⟨g', t', cs, fuel, p, h1, h2, h3, h4, _⟩ := laid_var hl _ _ hm
  have hg : Tryz.prog.globalNamed "pintle/slow.begin" = some 10 := by kernel_rfl
  obtain rfl := Option.some.inj (hg.symm.trans h1)
  obtain rfl := Option.some.inj ((show (Tryz.prog.globals[10]?).map (·.type) = some 148 by kernel_rfl).symm.trans h2)
  have hcs := Lib.cells_of_tab Tryz.underlying148 Tryz.underlying100 (by kernel_rfl) (by kernel_rfl) h4
  have := World.var?_cell hg h3 j
  rw [this, ← Array.getElem?_toList, hcs, List.getElem?_map, hj]
  rfl

def rowsZ : List (List Int) := [[0, 4, 8, 12], [1, 5, 9, 13], [2, 6, 10, 14], [3, 7, 11, 15], [0, 5, 10, 15], [1, 6, 11, 12], [2, 7, 8, 13], [3, 4, 9, 14]]

theorem rows_cells {W : World} {laid : List (String × DataW Unit)} (h : laidMet Tryz.prog laid W) (hm : ("pintle/slow.rows", DataW.agg (rowsZ.map fun zs => Lib.tabData .i64 zs)) ∈ laid) (i j : Nat) (zs : List Int) (z : Int)
    (hi : rowsZ[i]? = some zs) (hj : zs[j]? = some z) (hj4 : j < 4) : W.cell? ⟨11, i * 4 + j, none⟩ = some (.int .i64 z) := by
  obtain ⟨ps, hl, _, _⟩ := h
  obtain ⟨g', t', cs, fuel, p, h1, h2, h3, h4, _⟩ := laid_var hl _ _ hm
  have hg : Tryz.prog.globalNamed "pintle/slow.rows" = some 11 := by kernel_rfl
  obtain rfl := Option.some.inj (hg.symm.trans h1)
  obtain rfl := Option.some.inj ((show (Tryz.prog.globals[11]?).map (·.type) = some 151 by kernel_rfl).symm.trans h2)
  have hcs := cells_of_rows Tryz.underlying151 Tryz.underlying150 Tryz.underlying3 (by kernel_rfl) (by kernel_rfl) h4 i j zs z hi hj hj4
  have := World.var?_cell hg h3 (i * 4 + j)
  rw [this, ← Array.getElem?_toList, hcs]

end Go.Proofs.YtaibhjpgbckbkaaGreatDoor.Gram
