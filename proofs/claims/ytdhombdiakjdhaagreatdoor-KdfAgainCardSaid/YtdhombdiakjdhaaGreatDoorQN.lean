/- The statement of KdfAgain: what is listed, variable by variable; the table that the walk wants, out of every world that holds what is listed. -/
import Derived.Test.YtdhombdiakjdhaaGreatDoorCards
import Derived.Test.YtdhombdiakjdhaaGreatDoorTie
import Derived.ProofKit
import Derived.OpenShut
import Derived.Below
import Derived.Carry
import Derived.LaidLaws
import Derived.Lay
import Derived.MakeChecks
import Derived.Deep.DeepHandedRow
import Derived.Deep.DeepWitnessRowRef
import Derived.Lib.LaidTab
import Derived.Stop.ErrReads
import Derived.Test.YtdhombdiakjdhaaGreatDoorQM
section
open Go Go.Proofs.YtdhombdiakjdhaaGreatDoor
set_option maxRecDepth 100000
namespace Go.Proofs.YtdhombdiakjdhaaGreatDoor.Kda
open Go.ChangeShapes Go.WideShapes Go.ChangeAt Go.RowKit Go.Proofs.YtdhombdiakjdhaaGreatDoor.Sx

theorem calls {P : Program} {Γ : Env} {f : FuncId} {fn : Func} {c : Code} {vs : List SV} {T : Tab} {lab F : Nat} {e : Eff} (h : CallOK P Γ f vs T lab F e) (hfn : P.funcs[f]? = some fn) (hne : (fn.name == "runtime.NumGoroutine") = false) (hc : fn.body = some c)
    {w0 : World} {M : Nat → Prop} {V : Val} {w : World} {xs : List Value} (hT : TabOK w0 M V T w) (hg : GlobOK Γ V) (hf : V.fresh lab) (hF : V.top F) (hx : denL V vs = some xs)
    {R : Ending → World → Prop} (hR : ∀ V' x w', V.ext lab V' → den V' e.val = some x → TabOK w0 M V' (upd T lab e) w' → R (.returned x) w') : Calls P f xs.toArray w R := by
  have h1 := h w0 M V T w xs (fun _ _ h => h) hT hg hf hF hx { dst := some 0, op := .ready 0, type := 0, pos := "", after := #[], guard := none } { tmps := #[Value.nilFunc], defers := [] } (fun a' w' => ∀ x, a'.tmps[0]? = some x → R (.returned x) w') (fun _ _ _ => False)
    (fun V' x w' h1 h2 h3 y hy => by
      simp [Act.put] at hy
      subst hy
      exact hR V' _ w' h1 h2 h3)
  rw [callFunc_enter hfn hc hne, Oper.upon_enter] at h1
  refine h1.mono fun e w' he => ?_
  cases e with
  | returned v => exact he v (by simp [Act.put])
  | panicked ch => exact he.elim
  | outgrown => obtain ⟨_, _, hh⟩ := he; exact hh.elim
theorem laid_var {P : Program} {W : World} : ∀ {laid : List (String × DataW Unit)} {ps : List MemPlace}, DataW.LaidVars P W laid ps → ∀ name d, (name, d) ∈ laid →
    ∃ g t cs fuel p, P.globalNamed name = some g ∧ (P.globals[g]?).map (·.type) = some t ∧ W.var? P name = some cs ∧ DataW.trod (fun _ => ()) P W 0 (fun _ => true) false fuel t cs.toList = some (d, p) ∧ ∀ x ∈ MemPlace.row ⟨g, 0, none⟩ cs.size ++ p, x ∈ ps
  | [], _, _, _, _, h => by cases h
  | (n, d0) :: r, ps, hl, name, d, h => by
    obtain ⟨g, t, cs, fuel, p, q, h1, h2, h3, h4, h5, rfl⟩ := hl
    rcases List.mem_cons.1 h with e | h
    · cases e
      exact ⟨g, t, cs, fuel, p, h1, h2, h3, h4, fun x hx => List.mem_append_left _ hx⟩
    · obtain ⟨g', t', cs', fuel', p', k1, k2, k3, k4, k5⟩ := laid_var h5 name d h
      exact ⟨g', t', cs', fuel', p', k1, k2, k3, k4, fun x hx => List.mem_append_right _ (k5 x hx)⟩

/-- An array of arrays of integers, cell by cell. -/
theorem cells_of_rows {P : Program} {W : World} {fuel : Nat} {t e c : TypeId} {n m : Nat} {k : IntKind} {cs : List Value} {zss : List (List Int)} {p : List MemPlace}
    (ht : P.underlying t = some (.array n e)) (he : P.underlying e = some (.array m c)) (hc : P.underlying c = some (.int k)) (hcc : P.cellsOf c = 1) (hce : P.cellsOf e = m)
    (h : DataW.trod (fun _ => ()) P W 0 (fun _ => true) false fuel t cs = some (.agg (zss.map fun zs => Lib.tabData k zs), p)) (i j : Nat) (zs : List Int) (z : Int) (hi : zss[i]? = some zs) (hj : zs[j]? = some z) (hjm : j < m) :
    cs[i * m + j]? = some (.int k z) := by
  obtain ⟨xs, f, _, hx, hlen, hn, hel⟩ := DataW.trod_array ht h
  simp only [Prod.mk.injEq, DataW.agg.injEq] at hx
  have hin : i < n := by
    have h1 := (List.getElem?_eq_some_iff.1 hi).1
    have h2 := congrArg List.length hx.1
    simp only [List.length_map] at h2
    omega
  have hrow := hel i hin
  have hxi : (xs.map (·.1))[i]? = some (Lib.tabData k zs) := by rw [← hx.1, List.getElem?_map, hi]; rfl
  rw [List.getElem?_map] at hxi
  obtain ⟨y, hy, hy2⟩ := Option.map_eq_some_iff.1 hxi
  rw [hy] at hrow
  obtain ⟨d, q⟩ := y
  simp only at hy2
  subst hy2
  rw [hce] at hrow
  have := Lib.cells_of_tab he hc hcc hce hrow
  have h3 := congrArg (·[j]?) this
  simp only [List.getElem?_take, List.getElem?_drop, List.getElem?_map, hj, Option.map_some, if_pos hjm] at h3
  exact h3

theorem cell_lt {w : World} {b o : Nat} {v : Value} (h : w.cell? ⟨b, o, none⟩ = some v) : b < w.heap.size := by
  unfold World.cell? at h
  simp only at h
  cases hb : w.heap[b]? with
  | none => rw [hb] at h; simp at h
  | some x => exact (Array.getElem?_eq_some_iff.1 hb).1


/-- Numbers that are listed. -/
theorem tab_cells {W : World} {laid : List (String × DataW Unit)} (h : laidMet Tryz.prog laid W) (name : String) (g t e n : Nat) (k : IntKind) (zs : List Int) (hm : (name, Lib.tabData k zs) ∈ laid) (hg : Tryz.prog.globalNamed name = some g) (ht : (Tryz.prog.globals[g]?).map (·.type) = some t)
    (h1 : Tryz.prog.underlying t = some (.array n e)) (h2 : Tryz.prog.underlying e = some (.int k)) (h3 : Tryz.prog.cellsOf e = 1) (h4 : Tryz.prog.cellsOf t = n) (j : Nat) (z : Int) (hj : zs[j]? = some z) : W.cell? ⟨g, j, none⟩ = some (.int k z) := by
  obtain ⟨ps, hl, _, _⟩ := h
  obtain ⟨g', t', cs, fuel, p, k1, k2, k3, k4, _⟩ := laid_var hl _ _ hm
  obtain rfl := Option.some.inj (hg.symm.trans k1)
  obtain rfl := Option.some.inj (ht.symm.trans k2)
  have hcs := Lib.cells_of_tab h1 h2 h3 h4 k4
  have := World.var?_cell hg k3 j
  rw [this, ← Array.getElem?_toList, hcs, List.getElem?_map, hj]
  rfl
/-- Rows of numbers that are listed. -/
theorem rows_cells {W : World} {laid : List (String × DataW Unit)} (h : laidMet Tryz.prog laid W) (name : String) (g t e c n m : Nat) (zss : List (List Int)) (hm : (name, DataW.agg (zss.map fun zs => Lib.tabData .i64 zs)) ∈ laid) (hg : Tryz.prog.globalNamed name = some g) (ht : (Tryz.prog.globals[g]?).map (·.type) = some t)
    (h1 : Tryz.prog.underlying t = some (.array n e)) (h2 : Tryz.prog.underlying e = some (.array m c)) (h3 : Tryz.prog.underlying c = some (.int .i64)) (h4 : Tryz.prog.cellsOf c = 1) (h5 : Tryz.prog.cellsOf e = m) (i j : Nat) (zs : List Int) (z : Int)
    (hi : zss[i]? = some zs) (hj : zs[j]? = some z) (hjm : j < m) : W.cell? ⟨g, i * m + j, none⟩ = some (.int .i64 z) := by
  obtain ⟨ps, hl, _, _⟩ := h
  obtain ⟨g', t', cs, fuel, p, k1, k2, k3, k4, _⟩ := laid_var hl _ _ hm
  obtain rfl := Option.some.inj (hg.symm.trans k1)
  obtain rfl := Option.some.inj (ht.symm.trans k2)
  have hcs := cells_of_rows h1 h2 h3 h4 h5 k4 i j zs z hi hj hjm
  have := World.var?_cell hg k3 (i * m + j)
  rw [this, ← Array.getElem?_toList, hcs]

theorem denL_intsT (V : Val) (k : IntKind) : ∀ zs : List Int, denL V (zs.map (SV.int true k)) = some (zs.map (Value.int k))
  | [] => rfl
  | z :: r => by simp [denL, den, denL_intsT V k r]

theorem roc_ints {V : Val} {w : World} {l : Nat} {k : IntKind} {zs : List Int} (h0 : 0 < zs.length) (hl : V.β l = some (l, 0)) (hc : ∀ (j : Nat) (z : Int), zs[j]? = some z → w.cell? ⟨l, j, none⟩ = some (.int k z)) : okB V w l (.roc (zs.map (SV.int true k))) := by
  refine ⟨zs.map (Value.int k), denL_intsT V k zs, l, 0, hl, ⟨cell_lt (hc 0 zs[0] (List.getElem?_eq_getElem h0)), fun s hs => ?_⟩, fun j v hj => ?_⟩
  · rw [List.getElem?_map] at hs
    obtain ⟨z, _, hz⟩ := Option.map_eq_some_iff.1 hs
    cases hz
  · rw [List.getElem?_map] at hj
    obtain ⟨z, hz, rfl⟩ := Option.map_eq_some_iff.1 hj
    simpa using hc j z hz


def rowsZ : List (List Int) := [[0, 4, 8, 12], [1, 5, 9, 13], [2, 6, 10, 14], [3, 7, 11, 15], [0, 5, 10, 15], [1, 6, 11, 12], [2, 7, 8, 13], [3, 4, 9, 14]]
def ordZ : List (List Int) := D.orders.map fun r => r.map fun n : Nat => (n : Int)
theorem flat_rows (j : Nat) (z : Int) (h : rowsI[j]? = some z) : ∃ i k zs, j = i * 4 + k ∧ k < 4 ∧ rowsZ[i]? = some zs ∧ zs[k]? = some z := by
  have hj : j < 32 := (List.getElem?_eq_some_iff.1 h).1
  have key : ∀ j : Fin 32, (rowsZ[j.1 / 4]?).bind (·[j.1 % 4]?) = rowsI[j.1]? := by decide
  have := key ⟨j, hj⟩
  simp only [h, Option.bind_eq_some_iff] at this
  obtain ⟨zs, h1, h2⟩ := this
  exact ⟨j / 4, j % 4, zs, by omega, Nat.mod_lt _ (by omega), h1, h2⟩
theorem flat_ord (j : Nat) (z : Int) (h : ordI[j]? = some z) : ∃ i k zs, j = i * 16 + k ∧ k < 16 ∧ ordZ[i]? = some zs ∧ zs[k]? = some z := by
  have hj : j < 160 := (List.getElem?_eq_some_iff.1 h).1
  have key : ∀ j : Fin 160, (ordZ[j.1 / 16]?).bind (·[j.1 % 16]?) = ordI[j.1]? := by decide
  have := key ⟨j, hj⟩
  simp only [h, Option.bind_eq_some_iff] at this
  obtain ⟨zs, h1, h2⟩ := this
  exact ⟨j / 16, j % 16, zs, by omega, Nat.mod_lt _ (by omega), h1, h2⟩

abbrev listed : List (String × DataW Unit) := Rows.kdfAgainRow.laid

theorem laid_ok {W : World} (h : laidMet Tryz.prog listed W) {va vb : Value} {ka kb : List Int} (ha : RdOK W .u8 va ka) (hb : RdOK W .u8 vb kb) :
    ∃ V : Val, TabOK W (fun _ => False) V (f3T ka kb) W ∧ (∀ k l, Sx.look k globs = some l → V.β l = some (k, 0)) ∧ V.top 100 ∧ V.σ 61 = some va ∧ V.σ 62 = some vb := by
  have pick : ∀ {x : String × DataW Unit} (i : Nat), listed[i]? = some x → x ∈ listed := fun i hi => List.mem_of_getElem? hi
  have hr := rows_cells h "pintle/slow.rows" 3 204 203 3 8 4 rowsZ (pick 9 rfl) (by kernel_rfl) (by kernel_rfl) Tryz.underlying204 Tryz.underlying203 Tryz.underlying3 (by kernel_rfl) (by kernel_rfl)
  have ho := rows_cells h "pintle/slow.orders" 5 249 211 3 10 16 ordZ (pick 10 rfl) (by kernel_rfl) (by kernel_rfl) Tryz.underlying249 Tryz.underlying211 Tryz.underlying3 (by kernel_rfl) (by kernel_rfl)
  have hi := tab_cells h "pintle/slow.initial" 4 190 66 8 .u32 D.iv (pick 11 rfl) (by kernel_rfl) (by kernel_rfl) Tryz.underlying190 Tryz.underlying66 (by kernel_rfl) (by kernel_rfl)
  let bl : List (Nat × (Nat × Nat)) := [(3, (3, 0)), (4, (4, 0)), (5, (5, 0))]
  let sl : List (Nat × Value) := [(61, va), (62, vb)]
  let V : Val := ⟨fun l => Sx.look l bl, fun l => Sx.look l sl⟩
  have all : ∀ l B, f3T ka kb l = some B → okB V W l B ∧ B.owned = false := by
    intro l B hl
    have hm := look_mem hl
    simp only [f3L, glB, List.mem_cons, List.not_mem_nil, or_false, Prod.mk.injEq] at hm
    rcases hm with ⟨rfl, rfl⟩ | ⟨rfl, rfl⟩ | ⟨rfl, rfl⟩ | ⟨rfl, rfl⟩ | ⟨rfl, rfl⟩
    · exact ⟨⟨_, rfl, va, rfl, ha⟩, rfl⟩
    · exact ⟨⟨_, rfl, vb, rfl, hb⟩, rfl⟩
    · exact ⟨roc_ints (zs := rowsI) (by decide) rfl fun j z hj => (by
        obtain ⟨i, k, zs, rfl, hk, h1, h2⟩ := flat_rows j z hj
        exact hr i k zs z h1 h2 hk), rfl⟩
    · exact ⟨roc_ints (zs := D.iv) (by decide) rfl hi, rfl⟩
    · exact ⟨roc_ints (zs := ordI) (by decide) rfl fun j z hj => (by
        obtain ⟨i, k, zs, rfl, hk, h1, h2⟩ := flat_ord j z hj
        exact ho i k zs z h1 h2 hk), rfl⟩
  refine ⟨V, ⟨fun l B hl => (all l B hl).1, fun l B l' B' n _ hl _ ho => ?_, fun l B n hl ho => ?_, FrameOK.refl _ _⟩, fun k l hk => ?_, fun l hl => ⟨?_, ?_⟩, rfl, rfl⟩
  · rw [(all l B hl).2] at ho; cases ho
  · rw [(all l B hl).2] at ho; cases ho
  · have hm := look_mem hk
    simp only [globs, List.mem_cons, List.not_mem_nil, or_false, Prod.mk.injEq] at hm
    rcases hm with ⟨rfl, rfl⟩ | ⟨rfl, rfl⟩ | ⟨rfl, rfl⟩ <;> rfl
  · show Sx.look l bl = none
    cases hlk : Sx.look l bl with
    | none => rfl
    | some p =>
      exfalso
      have hm := look_mem hlk
      have hall : bl.all (fun x => Nat.blt x.1 100) = true := rfl
      have := List.all_eq_true.1 hall _ hm
      simp only [Nat.blt_eq] at this
      omega
  · show Sx.look l sl = none
    cases hlk : Sx.look l sl with
    | none => rfl
    | some p =>
      exfalso
      have hm := look_mem hlk
      have hall : sl.all (fun x => Nat.blt x.1 100) = true := rfl
      have := List.all_eq_true.1 hall _ hm
      simp only [Nat.blt_eq] at this
      omega

theorem ros_den {w : World} {v : Value} {ys : List Int} (h : RdOK w .u8 v ys) : rosV ys.length v = some v := by
  rcases h with ⟨⟨a, rfl⟩, rfl⟩ | ⟨b, o, c, rfl, _, hle, _⟩
  · cases a <;> simp [rosV]
  · simp [rosV, hle]

/-- THE CALL, seen from outside. -/
theorem walk {W : World} (h : laidMet Tryz.prog listed W) {va vb : Value} {ka kb c : List Int} {at_ by_ : Int} (ha : RdOK W .u8 va ka) (hb : RdOK W .u8 vb kb) (h1 : Bts ka) (h2 : Bts kb) (h3 : Bts c) (h4 : c.length = 32) (h5 : Bt by_) :
    Calls Tryz.prog 3 #[va, vb, .agg (c.map (Value.int .u8)).toArray, .int .i64 at_, .int .u8 by_] W fun e w' => e = .returned (.bool true) ∧ Below W.heap.size W w' := by
  obtain ⟨V, k1, k2, k3, k4, k5⟩ := laid_ok h ha hb
  refine calls (f3_call (at_ := at_) h1 h2 h3 h4 h5 (env exA 0) rfl) Tryz.func3 (by kernel_rfl) (c := codeOf Tryz.f3) rfl k1 (fun n l hn => k2 n l hn) (fun l hl1 _ => k3 l hl1) k3 (xs := [va, vb, .agg (c.map (Value.int .u8)).toArray, .int .i64 at_, .int .u8 by_]) ?_ fun V' x w' _ hx hT => ?_
  · simp only [f3Vs, denL, den, k4, k5, Option.bind_some, ros_den ha, ros_den hb, Option.map_some]
  · have hx : den V' (.bool true true) = some x := hx
    simp only [den, Option.some.injEq] at hx
    subst hx
    exact ⟨rfl, hT.frame.os, hT.frame.tape, hT.frame.output, hT.frame.size, fun k hk => hT.frame.block k hk (fun h => h)⟩

end Go.Proofs.YtdhombdiakjdhaaGreatDoor.Kda
end
