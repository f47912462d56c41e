/- The symbolic executor, thirteenth text: copy, clear, literals of structs, arrays and slices, a slice as an array. -/
import Derived.IntWalk
import Derived.Defers
import Derived.LaidEql
import Derived.ChangeKeysEq
import Derived.Test.YtjomfjihopegmaaGreatDoorQA
section
open Go
namespace Go.Proofs.YtjomfjihopegmaaGreatDoor.Sx
section Ops
variable {P : Program} {Γ : Env} {V : Val} {w w0 : World} {M : Nat → Prop} {T : Tab} {g : Nat → Option SV} {a : Act} {o : Oper} {e : Eff}
def slcAt : SV → Option (Nat × Nat × Nat)
 | .slc l true off len _ => some (l, off, len)
 | .slcR l off len _ => some (l, off, len)
 | _ => none
theorem slcAt_ok {v : SV} {x : Value} {l off len : Nat} (h : slcAt v = some (l, off, len)) (hv : den V v = some x) : ∃ p c, V.β l = some p ∧ x = .slice (some ⟨p.1, p.2 + off, none⟩) len c := by
 unfold slcAt at h
 split at h
 ·simp only [Option.some.injEq, Prod.mk.injEq] at h
  obtain ⟨rfl, rfl, rfl⟩ := h
  simp only [den, Option.map_eq_some_iff] at hv
  obtain ⟨p, hβ, rfl⟩ := hv
  exact ⟨p, _, hβ, rfl⟩
 ·simp only [Option.some.injEq, Prod.mk.injEq] at h
  obtain ⟨rfl, rfl, rfl⟩ := h
  simp only [den, Option.map_eq_some_iff, Option.bind_eq_some_iff] at hv
  obtain ⟨p, hβ, c, _, rfl⟩ := hv
  exact ⟨p, _, hβ, rfl⟩
 ·cases h
def eCopyC (T : Tab) (sz : Nat) (x y : SV) : Option Eff :=
 match slcAt x, seqC T sz y with
 | some (l, off, len), some (m, ys) => match T l with
   | some B => match wrB B true off (ys.take (Nat.min m len * sz)) with
     | some ([], B') => some { val := .int true .i64 ((Nat.min m len : Nat) : Int), wr := [(l, B')] }
     | _ => none
   | none => none
 | none, some _ => match x with
   | .raw (.slice none 0 0) => some { val := .int true .i64 0 }
   | _ => none
 | _, _ => none
theorem eCopyC_ok (hty : TyOK P Γ) {T' : Tab} (hsub : ∀ l B, T' l = some B → T l = some B) (hT : TabOK w0 M V T w) {lab : Nat} {dT sT ty el : TypeId} {te : TI} (ht : P.underlying dT = some (.slice el)) (hte : Γ.ty el = some te)
  {x y : SV} {u v : Value} (hx : den V x = some u) (hy : den V y = some v) (he : eCopyC T' te.size x y = some e) : SimV P w0 M V T lab e (Builtin.copy_ #[dT, sT] ty #[u, v]) w := by
 unfold eCopyC at he
 split at he
 case h_3 => cases he
 case h_2 =>
  rename_i q hs hq
  split at he
  case h_2 => cases he
  cases he
  simp only [den, Option.some.injEq] at hx
  subst hx
  obtain ⟨_, i, z, hi, hisz, _⟩ := hty el te hte
  refine ⟨V, .int .i64 0, w, ?_, V.ext_refl lab, rfl, by rw [upd_none T lab rfl rfl]; exact hT⟩
  obtain ⟨m, ys⟩ := q
  obtain ⟨cy, hcy, hone, hh⟩ := seqC_ok (hT.sub hsub) hy hq
  rcases hh with ⟨rfl, rfl, rfl⟩ | ⟨ad, c', rfl, hl, hcells⟩
  ·have hf := run_firstCells_none (P := P) (w := w) te.size 0 0 0
   simp [Builtin.copy_, run_underlying ht, Builtin.lenOf, run_sizeOf hi, hisz, hf, goInt]
  ·have hf := run_firstCells_some (P := P) (w := w) te.size 0 ad m c' [] (by simp) (fun j q hj => by simp at hj)
   simp [Builtin.copy_, run_underlying ht, Builtin.lenOf, run_sizeOf hi, hisz, hf, goInt]
 rename_i l off len m ys hs hq
 split at he
 case h_2 => cases he
 rename_i B hB
 split at he
 case h_2 => cases he
 rename_i B' hw
 simp only [Option.some.injEq] at he
 subst he
 obtain ⟨_, i, z, hi, hisz, _⟩ := hty el te hte
 obtain ⟨p, c, hβ, rfl⟩ := slcAt_ok hs hx
 obtain ⟨cy, hcy, hone, hh⟩ := seqC_ok (hT.sub hsub) hy hq
 have h1 := ones_ok hone hcy
 have hd := denL_take (Nat.min m len * te.size) hcy
 obtain ⟨w', hr, hT'⟩ := wrB_ok (P := P) lab (.int true .i64 ((Nat.min m len : Nat) : Int)) hT (hsub l B hB) (b := p.1) (o := p.2) hβ hw (by simp) hd (fun q hq => h1 q (List.mem_of_mem_take hq))
 refine ⟨V, _, w', ?_, V.ext_refl lab, rfl, hT'⟩
 rcases hh with ⟨rfl, rfl, rfl⟩ | ⟨ad, c', rfl, hl, hcells⟩
 ·have hf := run_firstCells_none (P := P) (w := w) te.size 0 0 0
  simp only [List.take_nil] at hr
  simp [Builtin.copy_, run_underlying ht, Builtin.lenOf, run_sizeOf hi, hisz, hf, hr, goInt]
 ·have hf := run_firstCells_some (P := P) (w := w) te.size (Nat.min m len) ad m c' (cy.take (Nat.min m len * te.size))
   (by rw [List.length_take, hl]; exact Nat.min_eq_left (Nat.mul_le_mul_right _ (Nat.min_le_left _ _)))
   (fun j q hj => by
    rw [List.getElem?_take] at hj
    split at hj
    ·exact hcells j q hj
    ·cases hj)
  simp [Builtin.copy_, run_underlying ht, Builtin.lenOf, run_sizeOf hi, hisz, hf, hr, goInt]
def zerosS (zero : List SV) (n : Nat) : List SV := (List.range (n * zero.length)).map fun j => zero.getD (j % zero.length) (.raw undef)
theorem zerosS_ok {zero : List SV} {z : Array Value} (h : denL V zero = some z.toList) (h0 : 0 < zero.length) (n : Nat) : denL V (zerosS zero n) = some (((Array.range (n * z.size)).map fun j => z[j % z.size]!).toList) := by
 have hl : z.size = zero.length := by have := denL_length h; simpa using this
 have := denL_map_range (V := V) (n * zero.length) (fun j => zero.getD (j % zero.length) (.raw undef)) (fun j => z[j % zero.length]!) (fun j _ => by
  have hlt : j % zero.length < zero.length := Nat.mod_lt _ h0
  obtain ⟨x, hx, hd⟩ := denL_get h (j % zero.length) _ (List.getElem?_eq_getElem hlt)
  have e1 : zero.getD (j % zero.length) (.raw undef) = zero[j % zero.length] := by simp [List.getD_eq_getElem?_getD, hlt]
  rw [e1, hd]
  have hz : j % zero.length < z.size := by omega
  simp only [Array.getElem?_toList, Array.getElem?_eq_getElem hz, Option.some.injEq] at hx
  rw [← hx]
  simp [getElem!_def, Array.getElem?_eq_getElem hz])
 rw [zerosS, this, hl]
 simp [Array.toList_range]
def eClearC (T : Tab) (te : TI) (x : SV) : Option Eff :=
 match x with
 | .raw (.slice none _ _) => some { val := .tup [] }
 | _ => match slcAt x, Nat.blt 0 te.zero.length && onesB te.zero with
   | some (l, off, len), true => match T l with
     | some B => match wrB B true off (zerosS te.zero len) with
       | some ([], B') => some { val := .tup [], wr := [(l, B')] }
       | _ => none
     | none => none
   | _, _ => none
theorem onesB_mem {vs : List SV} (h : onesB vs = true) {v : SV} (hv : v ∈ vs) : one1 v = true := by
 unfold onesB at h
 exact List.all_eq_true.1 h v hv
theorem zerosS_ones {zero : List SV} (h : onesB zero = true) (h0 : 0 < zero.length) (n : Nat) : onesB (zerosS zero n) = true := by
 unfold onesB zerosS
 rw [List.all_eq_true]
 intro v hv
 obtain ⟨j, _, rfl⟩ := List.mem_map.1 hv
 have hlt : j % zero.length < zero.length := Nat.mod_lt _ h0
 simp only [List.getD_eq_getElem?_getD, List.getElem?_eq_getElem hlt, Option.getD_some]
 exact onesB_mem h (List.getElem_mem hlt)
theorem eClearC_ok (hty : TyOK P Γ) {T' : Tab} (hsub : ∀ l B, T' l = some B → T l = some B) (hT : TabOK w0 M V T w) {lab : Nat} {t ty el : TypeId} {te : TI} (ht : P.underlying t = some (.slice el)) (hte : Γ.ty el = some te)
  {x : SV} {u : Value} (hx : den V x = some u) (he : eClearC T' te x = some e) : SimV P w0 M V T lab e (Builtin.clear_ #[t] ty #[u]) w := by
 unfold eClearC at he
 split at he
 ·simp only [Option.some.injEq] at he
  subst he
  simp only [den, Option.some.injEq] at hx
  subst hx
  exact simV_pure ⟨.tuple #[], by simp [Builtin.clear_, run_underlying ht], by simp [den, denL], rfl, rfl⟩ hT
 ·split at he
  case h_2 => cases he
  rename_i l off len hs hz
  split at he
  case h_2 => cases he
  rename_i B hB
  split at he
  case h_2 => cases he
  rename_i B' hw
  simp only [Option.some.injEq] at he
  subst he
  simp only [Bool.and_eq_true] at hz
  have h0 : 0 < te.zero.length := by simpa [Nat.blt_eq] using hz.1
  obtain ⟨_, i, z, hi, hisz, _, hzz, hzero⟩ := hty el te hte
  obtain ⟨p, c, hβ, rfl⟩ := slcAt_ok hs hx
  have hd := zerosS_ok (V := V) (hzero V) h0 len
  have h1 := ones_ok (zerosS_ones hz.2 h0 len) hd
  obtain ⟨w', hr, hT'⟩ := wrB_ok (P := P) lab (.tup []) hT (hsub l B hB) (b := p.1) (o := p.2) hβ hw (by simp) hd h1
  cases len with
  | zero =>
    refine ⟨V, .tuple #[], w, ?_, V.ext_refl lab, by simp [den, denL], ?_⟩
    ·simp [Builtin.clear_, run_underlying ht]
    ·have : w' = w := by
      have e0 : ((Array.range (0 * z.cells.size)).map fun j => z.cells[j % z.cells.size]!).toList = [] := by simp
      rw [e0] at hr
      simp only [storeCells, Sem.run_pure, Result.ok.injEq, true_and] at hr
      exact hr.symm
     rw [← this]; exact hT'
  | succ n =>
    refine ⟨V, .tuple #[], w', ?_, V.ext_refl lab, by simp [den, denL], hT'⟩
    have hzc : (Builtin.zeroCells z.cells (n + 1)).toList = ((Array.range ((n + 1) * z.cells.size)).map fun j => z.cells[j % z.cells.size]!).toList := rfl
    rw [← hzc] at hr
    simp [Builtin.clear_, run_underlying ht, run_zeroValue hi hzz, hr]
def evP (Γ : Env) (g : Nat → Option SV) : List (Nat × Operand) → Option (List (Nat × SV))
 | [] => some []
 | (i, x) :: r => match ev Γ g x, evP Γ g r with
   | some v, some vs => some ((i, v) :: vs)
   | _, _ => none
theorem evP_ok (ht : TmpOK V g a) (hg : GlobOK Γ V) : ∀ {ps : List (Nat × Operand)} {vs : List (Nat × SV)}, evP Γ g ps = some vs →
  (ps.map fun p => (p.1, a.eval p.2)).map (·.1) = vs.map (·.1) ∧ denL V (vs.map (·.2)) = some ((ps.map fun p => (p.1, a.eval p.2)).map (·.2))
 | [], vs, h => by simp only [evP, Option.some.injEq] at h; subst h; simp [denL]
 | (i, x) :: r, vs, h => by
   simp only [evP] at h
   split at h
   ·rename_i v us hv hus
    cases h
    obtain ⟨h1, h2⟩ := evP_ok ht hg hus
    refine ⟨by simp only [List.map_cons, h1], ?_⟩
    simp only [List.map_cons, denL, ev_ok ht hg hv, Option.bind_some, h2, Option.map_some]
   ·cases h
def placesOf (Γ : Env) : List Field → Option (List (Nat × Nat))
 | [] => some []
 | f :: r => match Γ.ty f.type, placesOf Γ r with
   | some ti, some ps => some ((f.offset, ti.size) :: ps)
   | _, _ => none
theorem placesOf_ok (hty : TyOK P Γ) (w : World) : ∀ {fs : List Field} {ps : List (Nat × Nat)}, placesOf Γ fs = some ps →
  (fs.mapM (m := Sem) fun f => do pure (f.offset, ← sizeOf f.type)).run P w = .ok ps w
 | [], ps, h => by simp only [placesOf, Option.some.injEq] at h; subst h; simp
 | f :: r, ps, h => by
   simp only [placesOf] at h
   split at h
   ·rename_i ti qs hti hqs
    cases h
    obtain ⟨_, i, z, hi, hisz, _⟩ := hty _ _ hti
    have ih := placesOf_ok hty w hqs
    simp only [List.mapM_cons, Sem.run_bind, run_sizeOf hi, Result.andThen_ok, Sem.run_pure, ih, hisz]
   ·cases h
def beqK' (a b : IntKind) : Bool := decide (a = b)
/-! ### Arrays of integers, as lists -/
def intsV (k : IntKind) (n : Nat) (xs : List Int) : List SV := (List.range n).map fun j => .int false k (xs.getD j 0)
theorem intsV_ok {V : Val} {k : IntKind} {n : Nat} {xs : List Int} (h : xs.length = n) : denL V (intsV k n xs) = some (xs.map (Value.int k)) := by
 unfold intsV
 rw [denL_map_range (V := V) n (fun j => .int false k (xs.getD j 0)) (fun j => .int k (xs.getD j 0)) (fun j _ => rfl)]
 congr 1
 apply List.ext_getElem
 ·simp [h]
 ·intro i h1 h2
  have h3 : i < xs.length := by simpa using h2
  simp [List.getD_eq_getElem?_getD, h3]
def expP (place : Nat → Option (Nat × Nat)) : List (Nat × SV) → List Prop × List (Nat × SV)
 | [] => ([], [])
 | (i, v) :: r => match expP place r with
   | (ob, r') => match v, place i with
     | .ai k xs, some (_, n) => ((xs.length = n) :: ob, (i, .agg (intsV k n xs)) :: r')
     | v, _ => (ob, (i, v) :: r')
theorem expP_ok {place : Nat → Option (Nat × Nat)} : ∀ {l r : List (Nat × SV)} {ob : List Prop}, expP place l = (ob, r) → (∀ q ∈ ob, q) → r.map (·.1) = l.map (·.1) ∧ denL V (r.map (·.2)) = denL V (l.map (·.2))
 | [], r, ob, h, ho => by simp only [expP, Prod.mk.injEq] at h; obtain ⟨_, rfl⟩ := h; exact ⟨rfl, rfl⟩
 | (i, v) :: l, r, ob, h, ho => by
   simp only [expP] at h
   obtain ⟨ob1, r1, h1⟩ : ∃ ob1 r1, expP place l = (ob1, r1) := ⟨_, _, rfl⟩
   rw [h1] at h
   simp only at h
   have plain : (ob1, (i, v) :: r1) = (ob, r) → r.map (·.1) = ((i, v) :: l).map (·.1) ∧ denL V (r.map (·.2)) = denL V (((i, v) :: l).map (·.2)) := by
    intro h
    simp only [Prod.mk.injEq] at h
    obtain ⟨rfl, rfl⟩ := h
    obtain ⟨e1, e2⟩ := expP_ok h1 ho
    exact ⟨by simp [e1], by simp only [List.map_cons, denL, e2]⟩
   split at h
   ·rename_i k xs _ n _
    simp only [Prod.mk.injEq] at h
    obtain ⟨rfl, rfl⟩ := h
    obtain ⟨e1, e2⟩ := expP_ok h1 (fun q hq => ho q (List.mem_cons_of_mem _ hq))
    have hn : xs.length = n := ho _ List.mem_cons_self
    exact ⟨by simp [e1], by simp only [List.map_cons, denL, den, e2, intsV_ok hn, Option.map_some]⟩
   ·exact plain h
def eBuild (Γ : Env) (g : Nat → Option SV) (T : Tab) (t : TypeId) (parts : Array (Nat × Operand)) : Option Eff :=
 match Γ.ty t, evP Γ g parts.toList with
 | some ti, some vs => match ti.desc with
   | .struct fs => match placesOf Γ fs.toList with
     | some ps => match expP (fun i => ps[i]?) vs with
       | (ob, vs) => (fillS T (fun i => ps[i]?) ti.zero vs).map fun r => { obl := ob, val := .agg r }
     | none => none
   | .array _ el => match Γ.ty el with
     | some te => match expP (fun i => some (i * te.size, te.size)) vs with
       | (ob, vs) => (fillS T (fun i => some (i * te.size, te.size)) ti.zero vs).map fun r => { obl := ob, val := .agg r }
     | none => none
   | _ => none
 | _, _ => none
theorem eBuild_ok (hty : TyOK P Γ) (ht : TmpOK V g a) (hg : GlobOK Γ V) {T' : Tab} (hsub : ∀ l B, T' l = some B → T l = some B) (hT : TabOK w0 M V T w) {t : TypeId} {parts : Array (Nat × Operand)} (hop : o.op = .build t parts) (he : eBuild Γ g T' t parts = some e) (ho : ∀ q ∈ e.obl, q) (lab : Nat) : Sim P w0 M V T lab e o a w := by
 unfold eBuild at he
 split at he
 case h_2 => cases he
 rename_i ti vs hti hvs
 obtain ⟨hu, i, z, hi, hisz, _, hz, hzero⟩ := hty t ti hti
 obtain ⟨h1, h2⟩ := evP_ok ht hg hvs
 have hpl : (parts.map fun (p : Nat × Operand) => (p.1, a.eval p.2)).toList = parts.toList.map fun p => (p.1, a.eval p.2) := by simp
 split at he
 ·rename_i fs hd
  rw [hd] at hu
  split at he
  case h_2 => cases he
  rename_i ps hps
  obtain ⟨ob, vs', hex⟩ : ∃ ob vs', expP (fun i => ps[i]?) vs = (ob, vs') := ⟨_, _, rfl⟩
  rw [hex] at he
  simp only [Option.map_eq_some_iff] at he
  obtain ⟨r, hr, rfl⟩ := he
  obtain ⟨e1, e2⟩ := expP_ok (V := V) hex ho
  obtain ⟨rs, hrs, hdr⟩ := fillS_ok (V := V) hsub hT hr (hzero V) (h1.trans e1.symm) (e2.trans h2)
  refine sim_pure (x := .agg rs) ?_ (by simp [den, hdr]) rfl rfl hT
  have hm : (fs.mapM (m := Sem) fun f => do pure (f.offset, ← sizeOf f.type)).run P w = .ok ps.toArray w := by
   rw [Array.mapM_eq_mapM_toList]
   simp only [map_eq_pure_bind, Sem.run_bind, placesOf_ok hty w hps, Result.andThen_ok, Sem.run_pure]
  have hrs' : Instr.fill (fun i => ps.toArray[i]?) z.cells (parts.toList.map fun p => (p.1, a.eval p.2)) = some rs := by
   simpa using hrs
  unfold execOp
  simp only [hop, Instr.build, Sem.run_bind, run_zeroValue hi hz, Result.andThen_ok, run_underlying hu w, hm, hpl, hrs', Sem.run_pure]
 ·rename_i n el hd
  rw [hd] at hu
  split at he
  case h_2 => cases he
  rename_i te hte
  obtain ⟨_, i2, z2, hi2, hisz2, _⟩ := hty el te hte
  obtain ⟨ob, vs', hex⟩ : ∃ ob vs', expP (fun i => some (i * te.size, te.size)) vs = (ob, vs') := ⟨_, _, rfl⟩
  rw [hex] at he
  simp only [Option.map_eq_some_iff] at he
  obtain ⟨r, hr, rfl⟩ := he
  obtain ⟨e1, e2⟩ := expP_ok (V := V) hex ho
  obtain ⟨rs, hrs, hdr⟩ := fillS_ok (V := V) hsub hT hr (hzero V) (h1.trans e1.symm) (e2.trans h2)
  refine sim_pure (x := .agg rs) ?_ (by simp [den, hdr]) rfl rfl hT
  have hrs' : Instr.fill (fun i => some (i * te.size, te.size)) z.cells (parts.toList.map fun p => (p.1, a.eval p.2)) = some rs := by
   simpa using hrs
  unfold execOp
  simp only [hop, Instr.build, Sem.run_bind, run_zeroValue hi hz, Result.andThen_ok, run_underlying hu w, run_sizeOf hi2, hisz2, hpl, hrs', Sem.run_pure]
 ·cases he
def eBuildSlice (Γ : Env) (g : Nat → Option SV) (T : Tab) (t : TypeId) (len : Nat) (parts : Array (Nat × Operand)) (lab : Nat) : Option Eff :=
 match Γ.ty t, evP Γ g parts.toList with
 | some ti, some vs => match ti.desc with
   | .slice el => match Γ.ty el with
     | some te => match Nat.blt 0 te.size && Nat.beq te.zero.length te.size && Nat.ble (len * te.size) 16777216 with
       | true => (fillS T (fun i => some (i * te.size, te.size)) (zerosS te.zero len) vs).map fun r => { val := .slc lab true 0 len len, new := [.own r el] }
       | false => none
     | none => none
   | _ => none
 | _, _ => none
theorem eBuildSlice_ok (hty : TyOK P Γ) (ht : TmpOK V g a) (hg : GlobOK Γ V) {T' : Tab} (hsub : ∀ l B, T' l = some B → T l = some B) (hT : TabOK w0 M V T w) {t : TypeId} {len : Nat} {parts : Array (Nat × Operand)} (hop : o.op = .buildSlice t len parts) {lab : Nat} (hf : V.fresh lab)
  (he : eBuildSlice Γ g T' t len parts lab = some e) : Sim P w0 M V T lab e o a w := by
 unfold eBuildSlice at he
 split at he
 case h_2 => cases he
 rename_i ti vs hti hvs
 obtain ⟨hu, _⟩ := hty t ti hti
 obtain ⟨h1, h2⟩ := evP_ok ht hg hvs
 have hpl : (parts.map fun (p : Nat × Operand) => (p.1, a.eval p.2)).toList = parts.toList.map fun p => (p.1, a.eval p.2) := by simp
 split at he
 case h_2 => cases he
 rename_i el hd
 rw [hd] at hu
 split at he
 case h_2 => cases he
 rename_i te hte
 obtain ⟨_, i, z, hi, hisz, _, hz, hzero⟩ := hty el te hte
 split at he
 case h_2 => cases he
 rename_i hc
 simp only [Bool.and_eq_true] at hc
 have hc1 : 0 < te.size := by simpa [Nat.blt_eq] using hc.1.1
 have hc2 := Nat.eq_of_beq_eq_true hc.1.2
 have hc3 := Nat.le_of_ble_eq_true hc.2
 have hzs : z.cells.size = te.size := by
  have h1 := denL_length (hzero V)
  rw [← hc2, ← h1]; simp
 simp only [Option.map_eq_some_iff] at he
 obtain ⟨r, hr, rfl⟩ := he
 have hzer := zerosS_ok (V := V) (hzero V) (by omega) len
 obtain ⟨rs, hrs, hdr⟩ := fillS_ok (V := V) (T' := T') hsub hT hr hzer h1 h2
 intro K Q hK
 unfold Oper.wp
 have hrs' : Instr.fill (fun i => some (i * te.size, te.size)) ((Array.range (len * te.size)).map (z.cells[· % z.cells.size]!)) (parts.toList.map fun p => (p.1, a.eval p.2)) = some rs := by
  rw [← hrs, hzs]
 have hrun : (execOp a.eval o).run P w = .ok (.value (.slice (some ⟨w.heap.size, 0, none⟩) len len)) (w.alloc (.cells rs el)) := by
  unfold execOp
  have hnot : ¬ (len * te.size > 2 ^ 24) := by omega
  by_cases h0 : len * te.size = 0
  ·have hlen : len = 0 := by
    rcases Nat.mul_eq_zero.1 h0 with h | h
    ·exact h
    ·omega
   subst hlen
   have hr0 : Array.range (0 * te.size) = #[] := by rw [Nat.zero_mul]; rfl
   rw [hr0, Array.map_empty] at hrs'
   simp only [hop, Instr.buildSlice, Sem.run_bind, run_underlying hu w, Result.andThen_ok, run_sizeOf hi, hisz, if_neg hnot, if_pos h0, Sem.run_pure, hr0, Array.map_empty, hpl, hrs']
   simp [newRow]
  ·simp only [hop, Instr.buildSlice, Sem.run_bind, run_underlying hu w, Result.andThen_ok, run_sizeOf hi, hisz, if_neg hnot, if_neg h0, run_zeroValue hi hz, Sem.run_pure, hpl, hrs']
   simp [newRow]
 rw [hrun, Oper.upon_value]
 have := hT.alloc hf (B := .own r el) (cs := rs.toList) (.inl rfl) hdr (.slc lab true 0 len len) []
 exact hK (V.put lab (w.heap.size, 0)) _ _ (Val.put_ext hf lab (Nat.le_refl _) (by omega) _) (by simp [den, Val.put]) this
def eArr (Γ : Env) (g : Nat → Option SV) (t : TypeId) (x : Operand) : Option Eff :=
 match Γ.ty t, ev Γ g x with
 | some ti, some v => match ti.desc, slcAt v with
   | .array n _, some (l, off, len) => match Nat.ble n len with
     | true => some { val := .ptr l true off }
     | false => none
   | .array n _, none => match v with
     | .slc l false off len _ => some { obl := [n ≤ len], val := .ptr l false off }
     | .ros l len => match Nat.blt 0 n with
       | true => some { obl := [n ≤ len], val := .bptr l 0 }
       | false => none
     | _ => none
   | _, _ => none
 | _, _ => none
theorem eArr_ok (hty : TyOK P Γ) (ht : TmpOK V g a) (hg : GlobOK Γ V) (hT : TabOK w0 M V T w) {t : TypeId} {x : Operand} (hop : o.op = .sliceToArrayPointer t x) (he : eArr Γ g t x = some e) (ho : ∀ q ∈ e.obl, q) (lab : Nat) : Sim P w0 M V T lab e o a w := by
 unfold eArr at he
 split at he
 case h_2 => cases he
 rename_i ti v hti hv
 split at he
 case h_3 => cases he
 case h_2 =>
  rename_i n el hd hs
  split at he
  case h_3 => cases he
  case h_2 =>
   rename_i l len
   split at he
   case h_2 => cases he
   rename_i hn0
   have hn0 : 0 < n := by simpa [Nat.blt_eq] using hn0
   simp only [Option.some.injEq] at he
   subst he
   have hle : n ≤ len := ho _ List.mem_cons_self
   obtain ⟨hu, _⟩ := hty t ti hti
   rw [hd] at hu
   have hx := ev_ok ht hg hv
   simp only [den, Option.bind_eq_some_iff] at hx
   obtain ⟨y, hσ, hx⟩ := hx
   obtain ⟨hx, hy⟩ := rosV_ok hx
   rcases hy with ⟨_, h0⟩ | ⟨b, base, c, rfl, _⟩
   ·omega
   refine sim_pure (x := .pointer (some ⟨b, base, none⟩)) ?_ (by simp [den, hσ, Addr.add]) rfl rfl hT
   unfold execOp
   have hnot : ¬ len < n := by omega
   simp only [hop, hx, Instr.arrayAt, Sem.run_bind, run_underlying hu w, Result.andThen_ok, if_neg hnot, Sem.run_pure]
  rename_i l off len cap
  simp only [Option.some.injEq] at he
  subst he
  have hle : n ≤ len := ho _ List.mem_cons_self
  obtain ⟨hu, _⟩ := hty t ti hti
  rw [hd] at hu
  have hx := ev_ok ht hg hv
  simp only [den, Option.map_eq_some_iff] at hx
  obtain ⟨p, hβ, hx⟩ := hx
  refine sim_pure (x := .pointer (some ⟨p.1, p.2 + off, none⟩)) ?_ (by simp [den, hβ]) rfl rfl hT
  unfold execOp
  have hnot : ¬ len < n := by omega
  simp only [hop, ← hx, Instr.arrayAt, Sem.run_bind, run_underlying hu w, Result.andThen_ok, if_neg hnot, Sem.run_pure]
 rename_i n el l off len hd hs
 split at he
 case h_2 => cases he
 rename_i hle
 have hle := Nat.le_of_ble_eq_true hle
 simp only [Option.some.injEq] at he
 subst he
 obtain ⟨hu, _⟩ := hty t ti hti
 rw [hd] at hu
 obtain ⟨p, c, hβ, hx⟩ := slcAt_ok hs (ev_ok ht hg hv)
 refine sim_pure (x := .pointer (some ⟨p.1, p.2 + off, none⟩)) ?_ (by simp [den, hβ]) rfl rfl hT
 unfold execOp
 have hnot : ¬ len < n := by omega
 simp only [hop, hx, Instr.arrayAt, Sem.run_bind, run_underlying hu w, Result.andThen_ok, if_neg hnot, Sem.run_pure]
def zOf : SV → Option (SV × Value)
 | .int _ k z => some (.int true k z, .int k z)
 | .raw (.slice none 0 0) => some (.raw (.slice none 0 0), .slice none 0 0)
 | _ => none
theorem zOf_ok {v s : SV} {x : Value} (h : zOf v = some (s, x)) (V : Val) : den V v = some x ∧ den V s = some x ∧ x.oneCell' = true := by
 unfold zOf at h
 split at h
 ·cases h; exact ⟨rfl, rfl, rfl⟩
 ·cases h; exact ⟨rfl, rfl, rfl⟩
 ·cases h
def eAppMake (d : TypeDesc) (te : TI) (el : TypeId) (lab : Nat) (x y : SV) : Option Eff :=
 match d, x, y with
 | .int _, .raw (.slice none 0 0), .int sn _ n => match need sn (0 < n ∧ n * te.bytes ≤ 140737488355328 ∧ n ≤ 9223372036854775807), te.zero, Nat.beq te.size 1 with
   | some ob, [z], true => match zOf z with
     | some (s, _) => some { obl := ob, val := .slcR lab 0 n.toNat 0, new := [.row 1 (List.replicate n.toNat s) el] }
     | none => none
   | _, _, _ => none
 | _, _, _ => none
theorem zeroCells_one (v : Value) (n : Nat) : Builtin.zeroCells #[v] n = (List.replicate n v).toArray := by
 apply Array.ext
 ·simp [Builtin.zeroCells]
 ·intro i h1 h2
  simp [Builtin.zeroCells, Nat.mod_one]
theorem run_append_make (w : World) {t t2 ty el : TypeId} {ik : IntKind} {i : TypeInfo} {z : Value} (ht : P.underlying t = some (.slice el)) (ht2 : P.underlying t2 = some (.int ik)) (hi : P.info? el = some i) (hz : i.zero = some z) (hsz : i.size = 1) (k0 : IntKind) (n : Nat)
  (h0 : 0 < n) (h63 : (n : Int) ≤ 9223372036854775807) (hb : n * i.bytes ≤ 140737488355328) :
  (Builtin.append_ #[t, t2] ty #[.slice none 0 0, .int k0 n]).run P w = .ok (.slice (some ⟨w.heap.size, 0, none⟩) n (grownCap w n 0 el))
   (w.drew.alloc (.cells (Builtin.zeroCells z.cells n ++ Builtin.zeroCells z.cells (grownCap w n 0 el - n)) el)) := by
 have hw : IntKind.i64.wrap (n : Int) = n := IntWalk.i64_in _ (by omega)
 have hn : n ≠ 0 := by omega
 have h63' : ¬ (9223372036854775807 < (n : Int)) := by omega
 have h1 : ¬ ((n : Int) < 0) := by omega
 have h2 : ¬ (281474976710656 < (n : Int) * (i.bytes : Int)) := by
  have : ((n * i.bytes : Nat) : Int) ≤ 140737488355328 := by omega
  rw [Int.natCast_mul] at this
  omega
 have h48' : ¬ (281474976710656 < Builtin.nextslicecap n 0 * i.bytes) := by rw [nextslicecap_zero h0]; omega
 simp [Builtin.append_, run_underlying ht, run_underlying ht2, sizeOf, typeInfo, zeroValue, hi, hz, hsz, asInt, asIntOf, hw, h1, h2, hn, h63', h48', Question.forced, newRow, grownCap, Builtin.firstCells]
theorem eAppMake_ok (hty : TyOK P Γ) (hT : TabOK w0 M V T w) {lab : Nat} (hf : V.fresh lab) {t t2 ty el : TypeId} {d : TypeDesc} {te : TI} (ht : P.underlying t = some (.slice el)) (ht2 : P.underlying t2 = some d) (hte : Γ.ty el = some te)
  {x y : SV} {u v : Value} (hx : den V x = some u) (hy : den V y = some v) (he : eAppMake d te el lab x y = some e) (ho : ∀ q ∈ e.obl, q) : SimV P w0 M V T lab e (Builtin.append_ #[t, t2] ty #[u, v]) w := by
 unfold eAppMake at he
 split at he
 case h_2 => cases he
 rename_i ik sn kk n
 split at he
 case h_2 => cases he
 rename_i ob z0 hc hz0 hs
 split at he
 case h_2 => cases he
 rename_i s x0 hzo
 have hs := Nat.eq_of_beq_eq_true hs
 simp only [Option.some.injEq] at he
 subst he
 obtain ⟨h1, h2, h3⟩ := need_ok hc ho
 simp only [den, Option.some.injEq] at hx hy
 subst hx hy
 obtain ⟨_, i, zv, hi, hisz, hiby, hz, hzero⟩ := hty el te hte
 obtain ⟨m, rfl⟩ := Int.eq_ofNat_of_zero_le (Int.le_of_lt h1)
 have hm : 0 < m := by omega
 obtain ⟨zo1, zo2, zo3⟩ := zOf_ok hzo V
 have hzc : zv.cells = #[x0] := by
  have := hzero V
  rw [hz0] at this
  simp only [denL, zo1, Option.bind_some, Option.map_some, Option.some.injEq] at this
  apply Array.ext'
  exact this.symm
 have hb : m * i.bytes ≤ 140737488355328 := by
  rw [hiby]
  have : ((m * te.bytes : Nat) : Int) ≤ 140737488355328 := by rw [Int.natCast_mul]; exact h2
  exact Int.ofNat_le.1 this
 have hr := run_append_make (P := P) (ty := ty) w ht ht2 hi hz (hisz.trans hs) kk m hm h3 hb
 have hgc := grownCap_ge w m 0 el
 have hgm : grownCap w m 0 el ≤ maxLen := grownCap_le_maxLen w m 0 el (by simp only [maxLen]; omega)
 have hrow : (w.drew.alloc (.cells (Builtin.zeroCells zv.cells m ++ Builtin.zeroCells zv.cells (grownCap w m 0 el - m)) el)).ownsRow 0 el 1 (.slice (some ⟨w.heap.size, 0, none⟩) m (grownCap w m 0 el)) m (List.replicate m x0) := by
  refine ⟨by simp, .inr ⟨w.heap.size, _, _, rfl, Nat.zero_le _, heap_alloc_new w.drew _, hgc, hgm, ?_, ?_⟩⟩
  ·rw [hzc]; simp [zeroCells_one]; omega
  ·rw [hzc]; simp [zeroCells_one]
 have hgr : w.grownBy (w.drew.alloc (.cells (Builtin.zeroCells zv.cells m ++ Builtin.zeroCells zv.cells (grownCap w m 0 el - m)) el)) none := ⟨rfl, rfl, rfl, by simp, fun k hk _ => heap_alloc_old w.drew _ hk⟩
 have hden : denL V (List.replicate m s) = some (List.replicate m x0) := by
  clear hr hgc hgm hrow hgr hb h1 h2 h3 hm hc ho
  induction m with
  | zero => rfl
  | succ m ih => simp [List.replicate_succ, denL, zo2, ih]
 obtain ⟨b, cap, hv', hT'⟩ := hT.appendR (lab := lab) hf (lo := none) (own := none) hden hrow (by simp) hgr (.inr rfl) (fun _ => rfl) (fun l hl => (by cases hl)) (.slcR lab 0 m 0) ob
 refine ⟨_, _, _, hr, Val.put2_ext hf lab (Nat.le_refl _) (by omega) _ _, ?_, hT'⟩
 simp [den, Val.put2, Val.put, Val.putσ, capOf, hv']
def arrI (Γ : Env) (d : TypeDesc) : Option IntKind := match d with
 | .array _ el => match Γ.ty el with
   | some te => match te.desc, Nat.beq te.size 1 with
     | .int k, true => some k
     | _, _ => none
   | none => none
 | _ => none
def eLoadA (Γ : Env) (g : Nat → Option SV) (T : Tab) (t : TypeId) (x : Operand) : Option Eff :=
 match ev Γ g x, Γ.ty t with
 | some (.ptr l s off), some ti => match arrI Γ ti.desc, T l with
   | some _, some (.ints k xs _) => match s && Nat.beq off 0 with
     | true => some (withO (.ai k xs) [xs.length = ti.size])
     | false => some (withO (.ai k ((xs.drop off).take ti.size)) [off + ti.size ≤ xs.length])
   | some _, some (.roi k xs) => some (withO (.ai k ((xs.drop off).take ti.size)) [off + ti.size ≤ xs.length])
   | _, _ => none
 | _, _ => none
theorem take_drop_range (xs : List Int) (off n : Nat) (h : off + n ≤ xs.length) (k : IntKind) : (List.range n).map (fun j => Value.int k (xs.getD (off + j) 0)) = ((xs.drop off).take n).map (Value.int k) := by
 apply List.ext_getElem
 ·simp; omega
 ·intro i h1 h2
  simp only [List.length_map, List.length_range] at h1
  have h3 : off + i < xs.length := by omega
  simp [List.getD_eq_getElem?_getD, h3]
theorem eLoadA_ok (hty : TyOK P Γ) (ht : TmpOK V g a) (hg : GlobOK Γ V) {T' : Tab} (hsub : ∀ l B, T' l = some B → T l = some B) (hT : TabOK w0 M V T w) {t : TypeId} {x : Operand} (hop : o.op = .load t x)
  (he : eLoadA Γ g T' t x = some e) (ho : ∀ q ∈ e.obl, q) (lab : Nat) : Sim P w0 M V T lab e o a w := by
 unfold eLoadA at he
 split at he
 case h_2 => cases he
 rename_i l s off ti hx hti
 have ex := ev_ok ht hg hx
 simp only [den, Option.map_eq_some_iff] at ex
 obtain ⟨⟨b, base⟩, hβ, ex⟩ := ex
 obtain ⟨hu, i, z, hi, hsz, _⟩ := hty t ti hti
 have main : ∀ (B : SB) (k : IntKind) (xs ys : List Int), (B = .ints k xs (match B with | .ints _ _ ty => ty | _ => 0) ∨ B = .roi k xs) → T' l = some B → aggD ti.desc = true → off + ti.size ≤ xs.length → ys = (xs.drop off).take ti.size → e.val = .ai k ys → e.new = [] → e.wr = [] → Sim P w0 M V T lab e o a w := by
  intro B k xs ys hBk hB hagg hle hys h1 h2 h3
  have hr : rdB B false off ti.size = some ([off + ti.size ≤ xs.length], (List.range ti.size).map fun j => .int false k (xs.getD (off + j) 0)) := by
   rcases hBk with q | q <;> rw [q] <;> rfl
  obtain ⟨zs, g1, g2, g3⟩ := rdB_ok (hT.ok l B (hsub l B hB)) hβ hr (by intro q hq; simp only [List.mem_singleton] at hq; subst hq; exact hle)
  rw [denL_map_range (V := V) ti.size (fun j => .int false k (xs.getD (off + j) 0)) (fun j => .int k (xs.getD (off + j) 0)) (fun j _ => rfl), take_drop_range xs off ti.size hle k] at g1
  cases g1
  have := (run_loadVar_cells hu hi b (base + off) _ (by rw [g2, hsz]) g3).1 hagg
  refine sim_pure (x := .agg (((xs.drop off).take ti.size).map (Value.int k)).toArray) ?_ (by rw [h1, hys]; rfl) h2 h3 hT
  unfold execOp
  simp only [hop, ← ex, Instr.loadAt, Instr.sureAddr, Sem.run_bind, Sem.run_pure, Result.andThen_ok, this]
 have hagg : ∀ k0, arrI Γ ti.desc = some k0 → aggD ti.desc = true := by
  intro k0 h
  unfold arrI at h
  split at h
  ·rename_i hd; rw [hd]; rfl
  ·cases h
 split at he
 ·rename_i k0 k xs ty ha hB
  split at he
  ·rename_i hs
   simp only [Bool.and_eq_true] at hs
   have h0 := Nat.eq_of_beq_eq_true hs.2
   subst h0
   simp only [withO, Option.some.injEq] at he
   subst he
   have hl : xs.length = ti.size := ho _ (by simp)
   exact main (.ints k xs ty) k xs xs (.inl rfl) hB (hagg _ ha) (by omega) (by rw [List.drop_zero, ← hl, List.take_length]) rfl rfl rfl
  ·simp only [withO, Option.some.injEq] at he
   subst he
   exact main (.ints k xs ty) k xs _ (.inl rfl) hB (hagg _ ha) (ho _ (by simp)) rfl rfl rfl rfl
 ·rename_i k0 k xs ha hB
  simp only [withO, Option.some.injEq] at he
  subst he
  exact main (.roi k xs) k xs _ (.inr rfl) hB (hagg _ ha) (ho _ (by simp)) rfl rfl rfl rfl
 ·cases he
def wrA (B : SB) (s : Bool) (off n : Nat) (k : IntKind) (xs : List Int) : Option (List Prop × SB) :=
 match B with
 | .ints k2 ys ty => match beqK' k k2, s && Nat.beq off 0 with
   | true, true => some ([xs.length = n ∧ ys.length = n], .ints k xs ty)
   | true, false => some ([xs.length = n ∧ off + n ≤ ys.length], .ints k (ys.take off ++ xs ++ ys.drop (off + n)) ty)
   | _, _ => none
 | .own cs ty => match s && (Nat.beq off 0 && Nat.beq cs.length n) with
   | true => some ([xs.length = n], .ints k xs ty)
   | false => match wrB (.own cs ty) s off (intsV k n xs) with
     | some (ob, B') => some ((xs.length = n) :: ob, B')
     | none => none
 | B => match wrB B s off (intsV k n xs) with
   | some (ob, B') => some ((xs.length = n) :: ob, B')
   | none => none
def eStoreA (Γ : Env) (g : Nat → Option SV) (T : Tab) (t : TypeId) (x y : Operand) : Option Eff :=
 match ev Γ g x, ev Γ g y, Γ.ty t with
 | some (.ptr l s off), some (.ai k xs), some ti => match T l with
   | some B => match wrA B s off ti.size k xs with
     | some (ob, B') => some { obl := ob, val := .raw undef, wr := [(l, B')] }
     | none => none
   | none => none
 | _, _, _ => none
theorem wrInts_ok {l : Nat} {ys xs : List Int} {ty : TypeId} {k : IntKind} {off b o : Nat} (lab : Nat) (rv : SV) (ob : List Prop)
  (hT : TabOK w0 M V T w) (hl : T l = some (.ints k ys ty)) (hβ : V.β l = some (b, o)) (hle : off + xs.length ≤ ys.length) :
  ∃ w', (storeCells ⟨b, o + off, none⟩ (xs.map (Value.int k))).run P w = .ok () w' ∧ TabOK w0 M V (upd T lab { obl := ob, val := rv, wr := [(l, .ints k (ys.take off ++ xs ++ ys.drop (off + xs.length)) ty)] }) w' := by
 obtain ⟨cs, hc, b', hb, hh⟩ := hT.ok l _ hl
 rw [hβ] at hb; cases hb
 simp only [SB.cells, Option.some.injEq] at hc
 subst hc
 refine ⟨_, run_storeCells_at P b (0 + off) ty _ 0 _ w hh (by simp; omega) (by intro x hx; simp only [List.mem_map] at hx; obtain ⟨y, _, rfl⟩ := hx; rfl), ?_⟩
 have hcells : SB.cells V (.ints k (ys.take off ++ xs ++ ys.drop (off + xs.length)) ty) = some ((ys.map (Value.int k)).take off ++ xs.map (Value.int k) ++ (ys.map (Value.int k)).drop (off + (xs.map (Value.int k)).length)) := by
  simp [SB.cells, List.map_take, List.map_drop]
 have := hT.write (B0 := .ints k ys ty) (B := .ints k (ys.take off ++ xs ++ ys.drop (off + xs.length)) ty) hl hβ rfl (by simp [SB.blk, hβ]) hh hcells (.inr (.inl rfl)) lab rv ob
 simpa using this
theorem wrA_ok {l : Nat} {B B' : SB} {s : Bool} {off n : Nat} {k : IntKind} {xs : List Int} {ob : List Prop} {b o : Nat} (lab : Nat) (rv : SV)
  (hT : TabOK w0 M V T w) (hl : T l = some B) (hβ : V.β l = some (b, o)) (h : wrA B s off n k xs = some (ob, B')) (ho : ∀ q ∈ ob, q) :
  xs.length = n ∧ ∃ w', (storeCells ⟨b, o + off, none⟩ (xs.map (Value.int k))).run P w = .ok () w' ∧ TabOK w0 M V (upd T lab { obl := ob, val := rv, wr := [(l, B')] }) w' := by
 have rest : ∀ ob', (match wrB B s off (intsV k n xs) with
   | some (ob, B') => some ((xs.length = n) :: ob, B')
   | none => none) = some (ob', B') → (∀ q ∈ ob', q) → ob' = ob → xs.length = n ∧ ∃ w', (storeCells ⟨b, o + off, none⟩ (xs.map (Value.int k))).run P w = .ok () w' ∧ TabOK w0 M V (upd T lab { obl := ob, val := rv, wr := [(l, B')] }) w' := by
  intro ob' h ho' hob
  split at h
  ·rename_i ob2 B2 h2
   cases h
   have hn : xs.length = n := ho' _ List.mem_cons_self
   refine ⟨hn, ?_⟩
   obtain ⟨w', h3, h4⟩ := wrB_ok (P := P) lab rv hT hl hβ h2 (fun q hq => ho' q (List.mem_cons_of_mem _ hq)) (intsV_ok hn) (by intro x hx; simp only [List.mem_map] at hx; obtain ⟨y, _, rfl⟩ := hx; rfl)
   exact ⟨w', h3, h4⟩
  ·cases h
 cases B with
 | ints k2 ys ty =>
   simp only [wrA] at h
   split at h
   ·rename_i hk hs
    cases h
    have hk : k = k2 := of_decide_eq_true hk
    subst hk
    simp only [Bool.and_eq_true] at hs
    have h0 := Nat.eq_of_beq_eq_true hs.2
    subst h0
    obtain ⟨h1, h2⟩ : xs.length = n ∧ ys.length = n := ho _ (by simp)
    refine ⟨h1, ?_⟩
    obtain ⟨w', h3, h4⟩ := wrInts_ok (P := P) (xs := xs) (off := 0) lab rv [xs.length = n ∧ ys.length = n] hT hl hβ (by omega)
    refine ⟨w', h3, ?_⟩
    have e : ys.take 0 ++ xs ++ ys.drop (0 + xs.length) = xs := by
     rw [Nat.zero_add, h1, ← h2, List.drop_length]; simp
    rw [e] at h4
    exact h4
   ·rename_i hk hs
    cases h
    have hk : k = k2 := of_decide_eq_true hk
    subst hk
    obtain ⟨h1, h2⟩ : xs.length = n ∧ off + n ≤ ys.length := ho _ (by simp)
    refine ⟨h1, ?_⟩
    subst h1
    exact wrInts_ok (P := P) lab rv _ hT hl hβ h2
   ·cases h
 | own cells ty =>
   simp only [wrA] at h
   split at h
   ·rename_i hs
    cases h
    simp only [Bool.and_eq_true] at hs
    have h0 := Nat.eq_of_beq_eq_true hs.2.1
    have hcl := Nat.eq_of_beq_eq_true hs.2.2
    subst h0
    have h1 : xs.length = n := ho _ (by simp)
    refine ⟨h1, ?_⟩
    obtain ⟨cs, hc, b', hb, hh⟩ := hT.ok l _ hl
    rw [hβ] at hb; cases hb
    have hcs := denL_length (show denL V cells = some cs from hc)
    refine ⟨_, run_storeCells_at P b (0 + 0) ty _ 0 _ w hh (by simp; omega) (by intro x hx; simp only [List.mem_map] at hx; obtain ⟨y, _, rfl⟩ := hx; rfl), ?_⟩
    have e : cs.take 0 ++ xs.map (Value.int k) ++ cs.drop (0 + (xs.map (Value.int k)).length) = xs.map (Value.int k) := by
     simp; omega
    have := hT.write (B0 := .own cells ty) (B := .ints k xs ty) hl hβ rfl (by simp [SB.blk, hβ]) hh rfl (.inr (.inl rfl)) lab rv [xs.length = n]
    rw [← e] at this
    simpa using this
   ·exact rest ob h ho rfl
 | row sz cells ty => exact rest ob h ho rfl
 | roc cells => exact rest ob h ho rfl
 | roi k xs => exact rest ob h ho rfl
 | rowi k xs ty => exact rest ob h ho rfl
 | rowx sz n ty => exact rest ob h ho rfl
 | vals vs ty => exact rest ob h ho rfl
 | rov k xs => exact rest ob h ho rfl
 | rowe pre k ds ty => exact rest ob h ho rfl
 | rol ds => exact rest ob h ho rfl
 | rof d => exact rest ob h ho rfl
 | rowl ds ty => exact rest ob h ho rfl
 | rowp xs ty => exact rest ob h ho rfl
 | rop xs => exact rest ob h ho rfl
 | rolz ds z => exact rest ob h ho rfl
 | gone => exact rest ob h ho rfl
theorem eStoreA_ok (hty : TyOK P Γ) (ht : TmpOK V g a) (hg : GlobOK Γ V) {T' : Tab} (hsub : ∀ l B, T' l = some B → T l = some B) (hT : TabOK w0 M V T w) {t : TypeId} {x y : Operand} (hop : o.op = .store t x y)
  (he : eStoreA Γ g T' t x y = some e) (ho : ∀ q ∈ e.obl, q) (lab : Nat) : Sim P w0 M V T lab e o a w := by
 unfold eStoreA at he
 split at he
 case h_2 => cases he
 rename_i l s off k xs ti hx hy hti
 split at he
 case h_2 => cases he
 rename_i B hB
 split at he
 case h_2 => cases he
 rename_i ob B' hw
 simp only [Option.some.injEq] at he
 subst he
 have ex := ev_ok ht hg hx
 simp only [den, Option.map_eq_some_iff] at ex
 obtain ⟨⟨b, base⟩, hβ, ex⟩ := ex
 have ey := ev_ok ht hg hy
 simp only [den, Option.some.injEq] at ey
 obtain ⟨hu, i, z, hi, hsz, _⟩ := hty t ti hti
 obtain ⟨hn, w', h1, h2⟩ := wrA_ok (P := P) lab (.raw undef) hT (hsub l B hB) hβ hw ho
 intro K Q hK
 unfold Oper.wp
 have hl : (a.eval y).cells.size = i.size := by rw [← ey, hsz, ← hn]; simp [Value.cells]
 have hcl : (a.eval y).cells.toList = xs.map (Value.int k) := by rw [← ey]; simp [Value.cells]
 have hrun : (execOp a.eval o).run P w = .ok .skip w' := by
  unfold execOp
  simp [hop, ← ex, Instr.storeAt, Instr.sureAddr, storeVar, run_sizeOf hi, hl, hcl, h1]
 rw [hrun, Oper.upon_skip]
 exact hK V undef w' (V.ext_refl lab) rfl h2
def eStoreS (Γ : Env) (g : Nat → Option SV) (T : Tab) (t : TypeId) (x y : Operand) : Option Eff :=
 match ev Γ g x, ev Γ g y, Γ.ty t with
 | some (.ptr l true off), some (.buf l2), some ti => match T l, bufT T l2, Nat.beq ti.size 1 with
   | some (.own cs ty), true, true => match Nat.blt off cs.length with
     | true => some { val := .raw undef, wr := [(l, .own (cs.take off ++ [.buf l2] ++ cs.drop (off + 1)) ty)] }
     | false => none
   | _, _, _ => none
 | _, _, _ => none
theorem eStoreS_ok (hty : TyOK P Γ) (ht : TmpOK V g a) (hg : GlobOK Γ V) {T' : Tab} (hsub : ∀ l B, T' l = some B → T l = some B) (hT : TabOK w0 M V T w) {t : TypeId} {x y : Operand} (hop : o.op = .store t x y)
  (he : eStoreS Γ g T' t x y = some e) (lab : Nat) : Sim P w0 M V T lab e o a w := by
 unfold eStoreS at he
 split at he
 case h_2 => cases he
 rename_i l off l2 ti hx hy hti
 split at he
 case h_2 => cases he
 rename_i cells ty hB hbuf hsz
 split at he
 case h_2 => cases he
 rename_i hlt
 have hlt : off < cells.length := by simpa [Nat.blt_eq] using hlt
 simp only [Option.some.injEq] at he
 subst he
 have ex := ev_ok ht hg hx
 simp only [den, Option.map_eq_some_iff] at ex
 obtain ⟨⟨b, base⟩, hβ, ex⟩ := ex
 have ey := ev_ok ht hg hy
 obtain ⟨hu, i, z, hi, hisz, _⟩ := hty t ti hti
 obtain ⟨h1, h2⟩ := bufT_ok hsub hT hbuf ey
 obtain ⟨cs, hc, b', hb, hh⟩ := hT.ok l _ (hsub l _ hB)
 rw [hβ] at hb; cases hb
 have hlen := denL_length (show denL V cells = some cs from hc)
 have hcells : denL V (cells.take off ++ [SV.buf l2] ++ cells.drop (off + 1)) = some (cs.take off ++ [a.eval y] ++ cs.drop (off + [a.eval y].length)) :=
  denL_append (denL_append (denL_take off hc) (by simp only [denL, ey, Option.bind_some, Option.map_some])) (denL_drop _ hc)
 obtain ⟨w', h3, h4⟩ : ∃ w', (storeCells ⟨b, 0 + off, none⟩ [a.eval y]).run P w = .ok () w' ∧ TabOK w0 M V (upd T lab { val := .raw undef, wr := [(l, .own (cells.take off ++ [SV.buf l2] ++ cells.drop (off + 1)) ty)] }) w' := by
  refine ⟨_, run_storeCells_at P b (0 + off) ty [a.eval y] 0 cs.toArray w hh (by simp; omega) (fun q hq => by simp only [List.mem_singleton] at hq; subst hq; exact h1), ?_⟩
  have := hT.write (B0 := .own cells ty) (B := .own (cells.take off ++ [SV.buf l2] ++ cells.drop (off + 1)) ty) (hsub l _ hB) hβ rfl (by simp [SB.blk, hβ]) hh hcells (.inl rfl) lab (.raw undef) []
  simpa using this
 intro K Q hK
 unfold Oper.wp
 have hsz1 : i.size = 1 := by rw [hisz]; exact Nat.eq_of_beq_eq_true hsz
 have hrun : (execOp a.eval o).run P w = .ok .skip w' := by
  unfold execOp
  simp only [Nat.zero_add] at h3
  simp [hop, ← ex, Instr.storeAt, Instr.sureAddr, storeVar, run_sizeOf hi, h2, hsz1, h3]
 rw [hrun, Oper.upon_skip]
 exact hK V undef w' (V.ext_refl lab) rfl h4
def eBoxA (Γ : Env) (g : Nat → Option SV) (t : TypeId) (x : Operand) (lab : Nat) : Option Eff :=
 match ev Γ g x with
 | some (.ai k xs) => some { val := .ptr lab true 0, new := [.ints k xs t] }
 | _ => none
theorem eBoxA_ok (ht : TmpOK V g a) (hg : GlobOK Γ V) (hT : TabOK w0 M V T w) {t : TypeId} {x : Operand} (hop : o.op = .box t x) {lab : Nat} (hf : V.fresh lab) (he : eBoxA Γ g t x lab = some e) : Sim P w0 M V T lab e o a w := by
 unfold eBoxA at he
 split at he
 case h_2 => cases he
 rename_i k xs hx
 simp only [Option.some.injEq] at he
 subst he
 have ex := ev_ok ht hg hx
 simp only [den, Option.some.injEq] at ex
 intro K Q hK
 unfold Oper.wp
 have hr : (execOp a.eval o).run P w = .ok (.value (.pointer (some ⟨w.heap.size, 0, none⟩))) (w.alloc (.cells (xs.map (Value.int k)).toArray t)) := by
  unfold execOp
  simp [hop, ← ex, Instr.box, newVar, newRow, Value.cells]
 rw [hr, Oper.upon_value]
 have := hT.alloc hf (B := .ints k xs t) (.inr (.inl rfl)) rfl (.ptr lab true 0) []
 exact hK _ _ _ (Val.put_ext hf lab (Nat.le_refl _) (by omega) _) (by simp [den, Val.put]) this
def eIndexA (Γ : Env) (g : Nat → Option SV) (t : TypeId) (x y : Operand) : Option Eff :=
 match ev Γ g x, ev Γ g y, Γ.ty t with
 | some (.ai k xs), some (.int _ _ i), some ti => match ti.desc with
   | .array len el => match Γ.ty el with
     | some te => match Nat.beq te.size 1, aggD te.desc with
       | true, false => some (withO (.int false k (xs.getD i.toNat 0)) [0 ≤ i ∧ i < len ∧ i.toNat < xs.length])
       | _, _ => none
     | none => none
   | _ => none
 | _, _, _ => none
theorem eIndexA_ok (hty : TyOK P Γ) (ht : TmpOK V g a) (hg : GlobOK Γ V) (hT : TabOK w0 M V T w) {t : TypeId} {x y : Operand} (hop : o.op = .index t x y) (he : eIndexA Γ g t x y = some e) (ho : ∀ q ∈ e.obl, q) (lab : Nat) : Sim P w0 M V T lab e o a w := by
 unfold eIndexA at he
 split at he
 case h_2 => cases he
 rename_i k xs s2 k2 i ti hx hy hti
 split at he
 case h_2 => cases he
 rename_i len el hd
 split at he
 case h_2 => cases he
 rename_i te hte
 split at he
 case h_2 => cases he
 rename_i hs1 hagg
 have hs1 := Nat.eq_of_beq_eq_true hs1
 simp only [withO, Option.some.injEq] at he
 subst he
 obtain ⟨h1, h2, h3⟩ : 0 ≤ i ∧ i < len ∧ i.toNat < xs.length := ho _ (by simp)
 have ex := ev_ok ht hg hx
 have ey := ev_ok ht hg hy
 simp only [den, Option.some.injEq] at ex ey
 obtain ⟨hue, ii, z, hi, hisz, _⟩ := hty el te hte
 have hu := (hty t ti hti).1
 rw [hd] at hu
 refine sim_pure (x := .int k (xs.getD i.toNat 0)) ?_ rfl rfl rfl hT
 have hy' : (xs.map (Value.int k)).toArray[i.toNat * te.size]? = some (.int k (xs.getD i.toNat 0)) := by
  rw [hs1, Nat.mul_one]; simp [h3, List.getD_eq_getElem?_getD]
 unfold execOp
 simp only [hop, ← ex, ← ey, Instr.index, asIntOf, Sem.run_bind, Sem.run_pure, run_underlying hu w, Result.andThen_ok, if_pos (And.intro h1 h2), part, run_isAgg hue, hagg, Bool.false_eq_true, if_false, run_sizeOf hi, hisz, hy']
def intsA : List SV → Option (IntKind × List Int)
 | .int s k n :: r => (intsK k (.int s k n :: r)).map fun ns => (k, ns)
 | _ => none
theorem intsA_ok {V : Val} {vs : List SV} {k : IntKind} {ns : List Int} (h : intsA vs = some (k, ns)) : denL V vs = some (ns.map (Value.int k)) := by
 unfold intsA at h
 split at h
 ·simp only [Option.map_eq_some_iff, Prod.mk.injEq] at h
  obtain ⟨ms, hm, rfl, rfl⟩ := h
  exact intsK_ok hm
 ·cases h
def intsOf : SV → Option (IntKind × List Int)
 | .ai k xs => some (k, xs)
 | .agg vs => intsA vs
 | _ => none
theorem intsOf_ok {v : SV} {k : IntKind} {xs : List Int} (h : intsOf v = some (k, xs)) : den V v = some (.agg (xs.map (Value.int k)).toArray) := by
 unfold intsOf at h
 split at h
 ·cases h; rfl
 ·simp only [den, intsA_ok h, Option.map_some]
 ·cases h
end Ops
section Lists
variable {P : Program} {Γ : Env} {V : Val} {w w0 : World} {M : Nat → Prop} {T : Tab} {g : Nat → Option SV} {a : Act} {o : Oper} {e : Eff}
theorem owned_list {v : Value} {us : List Value} {ty : TypeId} (h : w.ownsRow 0 ty 1 v us.length us) : FrozenL w (fun _ => False) v us := by
 refine ⟨?_, fun n hn => ⟨ownBlock_lt h (roBlk_own hn), fun q => q⟩⟩
 rcases h.2 with ⟨rfl, h0⟩ | ⟨b, cap, cur, rfl, _, hh, hle, _, _, htake⟩
 ·exact .inl ⟨.nil, List.eq_nil_of_length_eq_zero h0⟩
 ·refine .inr ⟨b, 0, cap, rfl, (Array.getElem?_eq_some_iff.1 hh).1, hle, fun j u hj => ?_⟩
  rw [cell_of_row w b _ _ _ _ hh]
  rw [← htake, List.getElem?_take] at hj
  split at hj
  ·simpa using hj
  ·cases hj
def listB : SB → Option (List (List Int))
 | .rol ds => some ds
 | .rowl ds _ => some ds
 | .rolz ds z => some (ds ++ List.replicate z [])
 | _ => none
theorem elV_length (l : Nat) : ∀ (i : Nat) (ds : List (List Int)), (elV l i ds).length = ds.length
 | _, [] => rfl
 | i, d :: r => by simp [elV, elV_length l (i + 1) r]
theorem elV_ones (l : Nat) : ∀ (i : Nat) (ds : List (List Int)), onesB (elV l i ds) = true
 | _, [] => rfl
 | i, d :: r => by
   have := elV_ones l (i + 1) r
   simp only [elV, onesB, List.all_cons, Bool.and_eq_true] at this ⊢
   exact ⟨rfl, this⟩
theorem tup_inj {v v' : Value} {us us' : List Value} (h : some (Value.tuple (v :: us).toArray) = some (.tuple (v' :: us').toArray)) : v = v' ∧ us = us' := by
 have e := congrArg (fun o : Option Value => match o with | some (.tuple xs) => xs.toList | _ => []) h
 simp only at e
 cases e
 exact ⟨rfl, rfl⟩
theorem nilFro {w0 : World} {M : Nat → Prop} {V : Val} {l z : Nat} {ds : List (List Int)} (h : froB w0 M V l (.rolz ds z)) : froB w0 M V l (.rol (ds ++ List.replicate z [])) := by
 obtain ⟨v, us, h1, h2, h3, h4, h5⟩ := h
 refine ⟨v, us, h1, h2, by simp [h3], fun i u d hu hd => ?_⟩
 by_cases hi : i < ds.length
 ·rw [List.getElem?_append_left hi] at hd
  exact h4 i u d hu hd
 ·rw [List.getElem?_append_right (by omega), List.getElem?_replicate] at hd
  split at hd
  ·cases hd
   have := h5 i u hu (by omega)
   subst this
   exact ⟨.inl ⟨.nil, rfl⟩, fun n hn => by cases hn⟩
  ·cases hd
theorem list_at (hT : TabOK w0 M V T w) {l : Nat} {B : SB} {ds : List (List Int)} (hB : T l = some B) (hd : listB B = some ds) :
  ∃ v us, V.σ l = some (.tuple (v :: us).toArray) ∧ us.length = ds.length ∧ (∀ (i : Nat) (u : Value) (d : List Int), us[i]? = some u → ds[i]? = some d → FrozenRd w0 M u d) ∧
    ((Bare v ∧ us = []) ∨ ∃ b o c, v = .slice (some ⟨b, o, none⟩) us.length c ∧ b < w.heap.size ∧ us.length ≤ c ∧ ∀ (j : Nat) (u : Value), us[j]? = some u → w.cell? ⟨b, o + j, none⟩ = some u) := by
 have hfr := hT.fro l B hB
 have hok := hT.ok l B hB
 cases B <;> simp only [listB] at hd <;> first | (cases hd; done) | skip
 ·cases hd
  obtain ⟨v, us, h1, h2, h3, h4⟩ := hfr
  exact ⟨v, us, h1, h3, h4, (h2.keep (M' := fun _ => False) hT.frame (fun _ h => h.elim)).1⟩
 ·cases hd
  obtain ⟨v, us, h1, h3, h4⟩ := hfr
  obtain ⟨_, _, v', us', h1', hrow⟩ := hok
  rw [h1] at h1'
  obtain ⟨rfl, rfl⟩ := tup_inj h1'
  exact ⟨v, us, h1, h3, h4, (owned_list hrow).1⟩
 ·cases hd
  obtain ⟨v, us, h1, h2, h3, h4⟩ := nilFro hfr
  exact ⟨v, us, h1, h3, h4, (h2.keep (M' := fun _ => False) hT.frame (fun _ h => h.elim)).1⟩
theorem denL_elV {l : Nat} {v : Value} {ws : List Value} (hσ : V.σ l = some (.tuple (v :: ws).toArray)) : ∀ {i : Nat} {ds : List (List Int)} {us : List Value}, us.length = ds.length → (∀ (j : Nat) (u : Value) (d : List Int), us[j]? = some u → ds[j]? = some d → rosV d.length u = some u) → ws.drop i = us → denL V (elV l i ds) = some us
 | i, [], us, h, _, _ => by
   have : us = [] := List.eq_nil_of_length_eq_zero (by simpa using h)
   subst this
   rfl
 | i, d :: r, us, h, hr, hw => by
   cases us with
   | nil => simp at h
   | cons u us =>
     have h0 := hr 0 u d rfl rfl
     have hu : ws[i]? = some u := by
      have := congrArg (fun q => q[0]?) hw
      simpa [List.getElem?_drop] using this
     have hd : ws.drop (i + 1) = us := by
      have := congrArg (List.drop 1) hw
      simpa [List.drop_drop, Nat.add_comm] using this
     have h2 := denL_elV hσ (i := i + 1) (ds := r) (us := us) (by simpa using h) (fun j x e h1 h2 => hr (j + 1) x e (by simpa using h1) (by simpa using h2)) hd
     have h1 : den V (.rse l i d.length) = some u := by
      simp only [den, hσ, Option.bind_some, rseV, List.getElem?_cons_succ, hu, h0]
     simp only [elV, denL, h1, h2, Option.bind_some, Option.map_some]
def eIndexL (Γ : Env) (g : Nat → Option SV) (t : TypeId) (x y : Operand) : Option Eff :=
 match ev Γ g x, ev Γ g y, Γ.ty t with
 | some (.rsl l n), some (.int _ _ k), some ti => match ti.desc with
   | .slice el => match Γ.ty el with
     | some te => match Nat.beq te.size 1 with
       | true => some (withO (.rpt l k.toNat) [0 ≤ k ∧ k < n])
       | false => none
     | none => none
   | _ => none
 | _, _, _ => none
theorem eIndexL_ok (hty : TyOK P Γ) (ht : TmpOK V g a) (hg : GlobOK Γ V) (hT : TabOK w0 M V T w) {t : TypeId} {x y : Operand} (hop : o.op = .indexAddr t x y) (he : eIndexL Γ g t x y = some e) (ho : ∀ q ∈ e.obl, q) (lab : Nat) : Sim P w0 M V T lab e o a w := by
 unfold eIndexL at he
 split at he
 case h_2 => cases he
 rename_i l n kk0 kk k ti hx hy hti
 split at he
 case h_2 => cases he
 rename_i el hd
 split at he
 case h_2 => cases he
 rename_i te hte
 split at he
 case h_2 => cases he
 rename_i hs1
 have hs1 := Nat.eq_of_beq_eq_true hs1
 simp only [withO, Option.some.injEq] at he
 subst he
 have hb : 0 ≤ k ∧ k < n := ho _ (by simp)
 have ex := ev_ok ht hg hx
 have ey := ev_ok ht hg hy
 simp only [den, Option.bind_eq_some_iff, Option.some.injEq] at ex ey
 obtain ⟨tv, hσ, ex⟩ := ex
 unfold rslV at ex
 split at ex
 case h_2 => cases ex
 rename_i xs
 simp only [Option.bind_eq_some_iff] at ex
 obtain ⟨v, hv, ex⟩ := ex
 obtain ⟨exv, hv'⟩ := rosV_ok ex
 rcases hv' with ⟨_, h0⟩ | ⟨b, base, c, rfl, _⟩
 ·omega
 obtain ⟨_, i, z, hi, hisz, _⟩ := hty el te hte
 have hu := (hty t ti hti).1
 rw [hd] at hu
 refine sim_pure (x := .pointer (some ⟨b, base + k.toNat * te.size, none⟩)) ?_ (by simp [den, hσ, rptV, hv, add_addr, hs1]) rfl rfl hT
 unfold execOp
 simp only [hop, exv, ← ey, Instr.indexAt, asIntOf, Sem.run_bind, Sem.run_pure, run_underlying hu w, Result.andThen_ok, if_pos hb, run_sizeOf hi, hisz, add_addr]
def eLoadL (Γ : Env) (g : Nat → Option SV) (T : Tab) (t : TypeId) (x : Operand) : Option Eff :=
 match ev Γ g x, Γ.ty t with
 | some (.rpt l i), some ti => match T l with
   | some B => match listB B, aggD ti.desc, Nat.beq ti.size 1 with
     | some ds, false, true => some { obl := [i < ds.length], val := .rse l i (ds.getD i []).length }
     | _, _, _ => none
   | none => none
 | _, _ => none
theorem eLoadL_ok (hty : TyOK P Γ) (ht : TmpOK V g a) (hg : GlobOK Γ V) {T' : Tab} (hsub : ∀ l B, T' l = some B → T l = some B) (hT : TabOK w0 M V T w) {t : TypeId} {x : Operand} (hop : o.op = .load t x)
  (he : eLoadL Γ g T' t x = some e) (ho : ∀ q ∈ e.obl, q) (lab : Nat) : Sim P w0 M V T lab e o a w := by
 unfold eLoadL at he
 split at he
 case h_2 => cases he
 rename_i l i ti hx hti
 split at he
 case h_2 => cases he
 rename_i B hB
 split at he
 case h_2 => cases he
 rename_i ds hd hagg hs1
 cases he
 have hs1 := Nat.eq_of_beq_eq_true hs1
 have hlt : i < ds.length := ho _ (by simp)
 have ex := ev_ok ht hg hx
 obtain ⟨v, us, hσ, hl, hfr, hv⟩ := list_at hT (hsub l B hB) hd
 obtain ⟨hu, ii, z, hi, hsz, _⟩ := hty t ti hti
 rcases hv with ⟨_, rfl⟩ | ⟨b, base, c, rfl, _, hc, hcell⟩
 ·simp at hl; omega
 have hui : i < us.length := by omega
 have hu1 := List.getElem?_eq_getElem hui
 have hd1 := List.getElem?_eq_getElem hlt
 have hfz := hfr i _ _ hu1 hd1
 simp only [den, hσ, Option.bind_some, rptV, List.head?_cons, add_addr, Option.some.injEq] at ex
 have hrun := (run_loadVar_cells (P := P) hu hi b (base + i) [us[i]] (by rw [hsz, hs1]; rfl) (fun j u hj => by
  cases j with
  | zero => simp only [List.getElem?_cons_zero, Option.some.injEq] at hj; subst hj; exact hcell i _ hu1
  | succ j => simp at hj)).2 hagg us[i] rfl
 refine sim_pure (x := us[i]) ?_ ?_ rfl rfl hT
 ·unfold execOp
  simp only [hop, ← ex, Instr.loadAt, Instr.sureAddr, Sem.run_bind, Sem.run_pure, Result.andThen_ok, hrun]
 ·simp only [den, hσ, Option.bind_some, rseV, List.getElem?_cons_succ, hu1]
  rw [List.getD_eq_getElem?_getD, hd1]
  exact hfz.1.ros
def eAppL (T : Tab) (te : TI) (el : TypeId) (lab : Nat) (x y : SV) : Option Eff := match y with
 | .rsl l m => match T l with
   | some B => match listB B, Nat.beq te.size 1 && Nat.beq te.zero.length 1, destC T el 1 x with
     | some ds, true, some (lo, n, xs) => match Nat.blt 0 n with
       | true => some { obl := [ds.length = m, (n + m) * te.bytes ≤ 140737488355328 ∧ n + m ≤ 9223372036854775807], val := .slcR lab 0 (n + m) 0, new := [.rowe xs l ds el], wr := goneL lo }
       | false => none
     | _, _, _ => none
   | none => none
 | _ => none
theorem eAppL_ok (hty : TyOK P Γ) {T' : Tab} (hsub : ∀ l B, T' l = some B → T l = some B) (hT : TabOK w0 M V T w) {lab : Nat} (hf : V.fresh lab) {t ty el : TypeId} {te : TI} (ht : P.underlying t = some (.slice el)) (hte : Γ.ty el = some te)
  {x y : SV} {u v : Value} (hx : den V x = some u) (hy : den V y = some v) (he : eAppL T' te el lab x y = some e) (ho : ∀ q ∈ e.obl, q) : SimV P w0 M V T lab e (Builtin.append_ #[t, t] ty #[u, v]) w := by
 unfold eAppL at he
 split at he
 case h_2 => cases he
 rename_i l m
 split at he
 case h_2 => cases he
 rename_i B hB
 split at he
 case h_2 => cases he
 rename_i ds lo n xs hd hck hdst
 split at he
 case h_2 => cases he
 rename_i hn0
 cases he
 simp only [Bool.and_eq_true] at hck
 have hs1 := Nat.eq_of_beq_eq_true hck.1
 have hz1 := Nat.eq_of_beq_eq_true hck.2
 have hn0 : 0 < n := by simpa [Nat.blt_eq] using hn0
 have o1 : ds.length = m := ho _ (by simp)
 have o4 : (n + m) * te.bytes ≤ 140737488355328 ∧ n + m ≤ 9223372036854775807 := ho _ (by simp)
 obtain ⟨_, i, z, hi, hisz, hiby, hz, hzero⟩ := hty el te hte
 have hi1 : i.size = 1 := hisz.trans hs1
 have hzs : z.cells.size = i.size := by
  have h1 := denL_length (hzero V)
  rw [hi1, ← hz1, ← h1]; simp
 obtain ⟨lv, us, hσ, hl, hfr, hv⟩ := list_at hT (hsub l B hB) hd
 simp only [den, hσ, Option.bind_some, rslV, List.head?_cons] at hy
 obtain ⟨rfl, _⟩ := rosV_ok hy
 have hcy : denL V (elV l 0 ds) = some us := denL_elV hσ hl (fun j u d hu hd => (hfr j u d hu hd).1.ros) rfl
 have h1 := ones_ok (elV_ones l 0 ds) hcy
 have hlm : us.length = m := hl.trans o1
 obtain ⟨cx, hcx, hrow, hnone, hsome, hlo⟩ := destC_ok (hT.sub hsub) hx hdst
 have hlo' : ∀ l, lo = some l → ∃ B, T l = some B ∧ B.owned = true ∧ ∀ n, u.ownBlock = some n → B.blk V l = some n := fun l hl => by
  obtain ⟨B, h1, h2, h3⟩ := hlo l hl; exact ⟨B, hsub l B h1, h2, h3⟩
 obtain ⟨v', w', hr, hrow', hgr, hblk⟩ : ∃ v' w', (Builtin.append_ #[t, t] ty #[u, v]).run P w = .ok v' w' ∧ w'.ownsRow 0 el 1 v' (n + m) (cx ++ us) ∧ w.grownBy w' u.ownBlock ∧ (v'.ownBlock = u.ownBlock ∨ v'.ownBlock = some w.heap.size) := by
  have go : ∀ (ad : Addr) (c : Nat), v = .slice (some ad) m c → (∀ (j : Nat) (u : Value), us[j]? = some u → w.cell? (ad.add j) = some u) → ∃ v' w', (Builtin.append_ #[t, t] ty #[u, v]).run P w = .ok v' w' ∧ w'.ownsRow 0 el 1 v' (n + m) (cx ++ us) ∧ w.grownBy w' u.ownBlock ∧ (v'.ownBlock = u.ownBlock ∨ v'.ownBlock = some w.heap.size) := by
   rintro ad c rfl hcells
   rw [← hi1] at hrow ⊢
   have hl' : us.length = m * i.size := by rw [hi1, Nat.mul_one]; exact hlm
   obtain ⟨v', w', hr, hrow', hgr, _⟩ := run_append_own (P := P) w 0 t ty el i z i.size i.bytes ht hi hz rfl rfl hzs (by omega) u n cx hrow ad m c us hl' hcells h1 (by simp only [maxLen]; omega) (by rw [hiby]; exact o4.1) (Nat.zero_le _)
   exact ⟨v', w', hr, hrow', hgr, append_blk (P := P) ht hi hz hrow rfl hl' hcells h1 (by simp only [maxLen]; omega) (by rw [hiby]; exact o4.1) hr⟩
  rcases hv with ⟨⟨ad, rfl⟩, rfl⟩ | ⟨b, base, c, rfl, _, hc, hcell⟩
  ·have hm : m = 0 := by simpa using hlm.symm
   subst hm
   cases ad with
   | none =>
     rw [← hi1] at hrow
     refine ⟨u, w, run_append_owned_none (P := P) (w := w) 0 t ty el i i.size ht hi u n _ hrow, by rw [List.append_nil, ← hi1]; exact hrow, ⟨rfl, rfl, rfl, Nat.le_refl _, fun _ _ _ => rfl⟩, .inl rfl⟩
   | some ad => exact go ad 0 rfl (fun j u hj => by simp at hj)
  ·exact go _ c (by rw [hlm]) (fun j u hj => by rw [add_addr]; exact hcell j u hj)
 have hne : v' ≠ .slice none 0 0 := by
  intro h
  subst h
  rcases hrow'.2 with ⟨_, h4⟩ | ⟨_, _, _, h4, _⟩
  ·omega
  ·cases h4
 obtain ⟨b2, cap2, hv', hT'⟩ := hT.appendR (lab := lab) hf (lo := lo) (own := u.ownBlock) (denL_append hcx hcy) hrow' hne hgr hblk (fun h => by rw [hnone h]; rfl) hlo' (.slcR lab 0 (n + m) 0) [ds.length = m, (n + m) * te.bytes ≤ 140737488355328 ∧ n + m ≤ 9223372036854775807]
 have hlab : look lab (goneL lo) = none := by
  cases hlo0 : lo with
  | none => rfl
  | some l1 =>
    simp only [goneL]
    rw [look_cons_ne]
    ·rfl
    ·intro q
     subst q
     obtain ⟨B1, b1, b2, _⟩ := hlo' l1 hlo0
     rcases hT.known b1 (by rintro rfl; cases b2) with h3 | h3
     ·exact h3 (hf l1 (Nat.le_refl _) (by omega)).1
     ·exact h3 (hf l1 (Nat.le_refl _) (by omega)).2
 have h4 := hT'.swap (l0 := lab) (B := .row 1 (xs ++ elV l 0 ds) el) (C := .rowe xs l ds el) (by simp only [upd, Eff.tab, newL]; rw [look_append, hlab]; simp only [look_cons_eq]) (fun ⟨cs, h1, b, cap, cur, r⟩ => ⟨cs, h1, b, cap, cur, r⟩) rfl rfl rfl
 have e4 : (fun k => if k = lab then some (SB.rowe xs l ds el) else upd T lab { obl := [ds.length = m, (n + m) * te.bytes ≤ 140737488355328 ∧ n + m ≤ 9223372036854775807], val := .slcR lab 0 (n + m) 0, new := [.row 1 (xs ++ elV l 0 ds) el], wr := goneL lo } k) = upd T lab { obl := [ds.length = m, (n + m) * te.bytes ≤ 140737488355328 ∧ n + m ≤ 9223372036854775807], val := .slcR lab 0 (n + m) 0, new := [.rowe xs l ds el], wr := goneL lo } := by
  funext k
  simp only [upd, Eff.tab, newL]
  rw [look_append, look_append]
  by_cases e : k = lab
  ·subst e; simp only [if_true, hlab, look_cons_eq]
  ·rw [look_cons_ne (fun q => e q.symm), look_cons_ne (fun q => e q.symm), if_neg e]
 rw [e4] at h4
 refine ⟨_, _, _, hr, Val.put2_ext hf lab (Nat.le_refl _) (by omega) _ _, ?_, h4⟩
 simp [den, Val.put2, Val.put, Val.putσ, capOf, hv']
def eSlice0 (Γ : Env) (g : Nat → Option SV) (T : Tab) (t : TypeId) (x : Operand) (lo hi mx : Option Operand) : Option Eff :=
 match hi, lo, mx with
 | some y, none, none => match ev Γ g y with
   | some (.int true _ h) => match decide (h = 0) with
     | true => match ev Γ g x, Γ.ty t with
       | some (.slcR l 0 _ 0), some ti => match ti.desc with
         | .slice el => match Γ.ty el, T l with
           | some _, some (.row sz _ ty) => some { val := .slcR l 0 0 0, wr := [(l, .row sz [] ty)] }
           | _, _ => none
         | _ => none
       | _, _ => none
     | false => none
   | _ => none
 | _, _, _ => none
theorem eSlice0_ok (hty : TyOK P Γ) (ht : TmpOK V g a) (hg : GlobOK Γ V) {T' : Tab} (hsub : ∀ l B, T' l = some B → T l = some B) (hT : TabOK w0 M V T w) {t : TypeId} {x : Operand} {lo hi mx : Option Operand} (hop : o.op = .slice t x lo hi mx)
  (he : eSlice0 Γ g T' t x lo hi mx = some e) (lab : Nat) : Sim P w0 M V T lab e o a w := by
 unfold eSlice0 at he
 split at he
 case h_2 => cases he
 rename_i y
 split at he
 case h_2 => cases he
 rename_i kk h hy
 split at he
 case h_2 => cases he
 rename_i h0
 have h0 := of_decide_eq_true h0
 subst h0
 split at he
 case h_2 => cases he
 rename_i l len ti hx hti
 split at he
 case h_2 => cases he
 rename_i el hd
 split at he
 case h_2 => cases he
 rename_i te sz cells ty0 hte hB
 cases he
 have ex := ev_ok ht hg hx
 have ey := ev_ok ht hg hy
 simp only [den, Option.map_eq_some_iff, Option.bind_eq_some_iff, Option.some.injEq, Nat.add_zero, Nat.sub_zero] at ex ey
 obtain ⟨⟨b, base⟩, hβ, c, hc, ex⟩ := ex
 have hu := (hty t ti hti).1
 rw [hd] at hu
 obtain ⟨_, i, z, hi', hisz, _⟩ := hty el te hte
 have hr := run_bounds (P := P) (w := w) (a := a) true len c (lo := none) (hi := some y) (mx := none) (m := (c : Int)) (h := 0) (k := ((0 : Nat) : Int)) (.inl ⟨rfl, rfl⟩) (.inr ⟨y, kk, rfl, ey.symm⟩) (.inl ⟨rfl, rfl⟩) rfl ⟨by omega, by omega, by omega, by omega, by omega, by omega⟩
 simp only [Option.map_none, Option.map_some, Int.toNat_natCast, Int.toNat_zero] at hr
 have hB := hsub l _ hB
 obtain ⟨xs, hxs, b', cap, cur, r1, r2, r3, r4, r5, r6, r7⟩ := hT.ok l _ hB
 have hT' := hT.change (B := .row sz [] ty0) (b := b') hB rfl (by simp [SB.blk, r1]) ⟨[], rfl, b', cap, cur, r1, r2, r3, r4, r5, ⟨0, by simp, Nat.zero_le _⟩, rfl⟩ (by simp [SB.blk, r1]) (Nat.le_refl _) (fun _ _ _ => rfl) rfl rfl rfl lab (.slcR l 0 0 0) []
 have hrun : (execOp a.eval o).run P w = .ok (.value (.slice (some ⟨b, base, none⟩) 0 c)) w := ?_
 ·intro K Q hK
  unfold Oper.wp
  rw [hrun, Oper.upon_value]
  exact hK V _ w (V.ext_refl lab) (by simp [den, hβ, hc]) hT'
 unfold execOp
 simp only [hop, ← ex, Instr.sliceAt, Instr.slice, Sem.run_bind, run_underlying hu w, Result.andThen_ok, Sem.run_pure, hr, run_sizeOf hi', Option.map_none, Option.map_some, Nat.zero_mul, Nat.sub_zero, add_addr, Nat.add_zero, ite_self]
theorem rse_ok {l i n : Nat} {x : Value} {B : SB} {ds : List (List Int)} (hT : TabOK w0 M V T w) (hv : den V (.rse l i n) = some x) (hB : T l = some B) (hd : listB B = some ds) :
  ∃ v us, V.σ l = some (.tuple (v :: us).toArray) ∧ us[i]? = some x ∧ FrozenRd w0 M x (ds.getD i []) ∧ rosV n x = some x := by
 have key : ∀ v us, V.σ l = some (.tuple (v :: us).toArray) → us.length = ds.length → (∀ (i : Nat) (u : Value) (d : List Int), us[i]? = some u → ds[i]? = some d → FrozenRd w0 M u d) → ∃ v us, V.σ l = some (.tuple (v :: us).toArray) ∧ us[i]? = some x ∧ FrozenRd w0 M x (ds.getD i []) ∧ rosV n x = some x := by
  intro v us hσ hl hf
  simp only [den, hσ, Option.bind_some, rseV, List.getElem?_cons_succ, Option.bind_eq_some_iff] at hv
  obtain ⟨u, hu, hr⟩ := hv
  have hx := (rosV_ok hr).1
  subst hx
  have hi : i < ds.length := by rw [← hl]; exact (List.getElem?_eq_some_iff.1 hu).1
  refine ⟨v, us, hσ, hu, ?_, hr⟩
  have hd := List.getElem?_eq_getElem hi
  rw [List.getD_eq_getElem?_getD, hd]
  exact hf i _ _ hu hd
 obtain ⟨v, us, h1, h3, h4, _⟩ := list_at hT hB hd
 exact key v us h1 h3 h4
def frz1 (T : Tab) : SV → Option (List Int)
 | .raw (.slice none 0 0) => some []
 | .ros l _ => match T l with
   | some (.rof d) => some d
   | _ => none
 | .rse l i _ => match T l with
   | some B => (listB B).map fun ds => ds.getD i []
   | none => none
 | _ => none
def frzL (T : Tab) : List SV → Option (List (List Int))
 | [] => some []
 | v :: r => match frz1 T v, frzL T r with
   | some d, some ds => some (d :: ds)
   | _, _ => none
theorem frz1_ok (hT : TabOK w0 M V T w) {v : SV} {x : Value} {d : List Int} (hv : den V v = some x) (h : frz1 T v = some d) : FrozenRd w0 M x d := by
 unfold frz1 at h
 split at h
 ·cases h
  simp only [den, Option.some.injEq] at hv
  subst hv
  exact ⟨.inl ⟨.nil, rfl⟩, fun n hn => by cases hn⟩
 ·split at h
  ·rename_i hB
   cases h
   obtain ⟨u, hσ, hF⟩ := hT.fro _ _ hB
   simp only [den, hσ, Option.bind_some] at hv
   rw [(rosV_ok hv).1]
   exact hF
  ·cases h
 ·split at h
  ·rename_i B hB
   simp only [Option.map_eq_some_iff] at h
   obtain ⟨ds, hd, rfl⟩ := h
   obtain ⟨_, _, _, _, hF, _⟩ := rse_ok hT hv hB hd
   exact hF
  ·cases h
 ·cases h
theorem frzL_ok (hT : TabOK w0 M V T w) : ∀ {vs : List SV} {xs : List Value} {ds : List (List Int)}, denL V vs = some xs → frzL T vs = some ds → xs.length = ds.length ∧ ∀ (i : Nat) (u : Value) (d : List Int), xs[i]? = some u → ds[i]? = some d → FrozenRd w0 M u d
 | [], xs, ds, h, hd => by
   cases hd
   simp only [denL, Option.some.injEq] at h
   subst h
   exact ⟨rfl, fun i u d hu => by simp at hu⟩
 | v :: r, xs, ds, h, hd => by
   simp only [frzL] at hd
   split at hd
   case h_2 => cases hd
   rename_i d0 ds0 h1 h2
   cases hd
   simp only [denL, Option.map_eq_some_iff, Option.bind_eq_some_iff] at h
   obtain ⟨x, hx, ys, hy, rfl⟩ := h
   obtain ⟨g1, g2⟩ := frzL_ok hT hy h2
   refine ⟨by simp [g1], fun i u d hu hd => ?_⟩
   cases i with
   | zero => simp only [List.getElem?_cons_zero, Option.some.injEq] at hu hd; subst hu hd; exact frz1_ok hT hx h1
   | succ i => exact g2 i u d (by simpa using hu) (by simpa using hd)
def eAppE (T : Tab) (te : TI) (el : TypeId) (lab : Nat) (x y : SV) : Option Eff := match x with
 | .rsl l n => match T l with
   | some (.rowl ds ty) => match Nat.beq ty el && (Nat.beq te.size 1 && Nat.beq te.zero.length 1), seqC T 1 y with
     | true, some (m, ys) => match Nat.blt 0 m, frzL T ys with
       | true, some es => some { obl := [(n + m) * te.bytes ≤ 140737488355328 ∧ n + m ≤ 9223372036854775807], val := .rsl lab (n + m), new := [.rowl (ds ++ es) el], wr := goneL (some l) }
       | _, _ => none
     | _, _ => none
   | _ => none
 | _ => none
theorem eAppE_ok (hty : TyOK P Γ) {T' : Tab} (hsub : ∀ l B, T' l = some B → T l = some B) (hT : TabOK w0 M V T w) {lab : Nat} (hf : V.fresh lab) {t ty el : TypeId} {te : TI} (ht : P.underlying t = some (.slice el)) (hte : Γ.ty el = some te)
  {x y : SV} {u v : Value} (hx : den V x = some u) (hy : den V y = some v) (he : eAppE T' te el lab x y = some e) (ho : ∀ q ∈ e.obl, q) : SimV P w0 M V T lab e (Builtin.append_ #[t, t] ty #[u, v]) w := by
 unfold eAppE at he
 split at he
 case h_2 => cases he
 rename_i l n
 split at he
 case h_2 => cases he
 rename_i ds ty' hB
 split at he
 case h_2 => cases he
 rename_i m ys hck hseq
 split at he
 case h_2 => cases he
 rename_i es hm hfz
 cases he
 simp only [Bool.and_eq_true] at hck
 have hty' := Nat.eq_of_beq_eq_true hck.1
 have hs1 := Nat.eq_of_beq_eq_true hck.2.1
 have hz1 := Nat.eq_of_beq_eq_true hck.2.2
 subst hty'
 have hm : 0 < m := by simpa [Nat.blt_eq] using hm
 have o4 : (n + m) * te.bytes ≤ 140737488355328 ∧ n + m ≤ 9223372036854775807 := ho _ (by simp)
 obtain ⟨_, i, z, hi, hisz, hiby, hz, hzero⟩ := hty ty' te hte
 have hi1 : i.size = 1 := hisz.trans hs1
 have hzs : z.cells.size = i.size := by
  have h1 := denL_length (hzero V)
  rw [hi1, ← hz1, ← h1]; simp
 obtain ⟨_, _, lv, us, hσ, hrow⟩ := hT.ok l _ (hsub l _ hB)
 obtain ⟨lv', us', hσ', hl, hfr⟩ := hT.fro l _ (hsub l _ hB)
 rw [hσ] at hσ'
 obtain ⟨rfl, rfl⟩ := tup_inj hσ'
 simp only [den, hσ, Option.bind_some, rslV, List.head?_cons] at hx
 obtain ⟨rfl, hu⟩ := rosV_ok hx
 have hn : n = us.length := by
  rcases hrow.2 with ⟨rfl, h0⟩ | ⟨b, cap, cur, rfl, _⟩
  ·rcases hu with ⟨_, h1⟩ | ⟨_, _, _, h1, _⟩
   ·omega
   ·cases h1
  ·rcases hu with ⟨⟨a, h1⟩, h2⟩ | ⟨_, _, _, h1, _⟩
   ·injection h1 with _ h3 _; omega
   ·injection h1 with _ h3 _; exact h3.symm
 subst hn
 obtain ⟨cy, hcy, hone, hh⟩ := seqC_ok (hT.sub hsub) hy hseq
 have h1 := ones_ok hone hcy
 rcases hh with ⟨_, h0, _⟩ | ⟨ad, c, rfl, hcl, hcells⟩
 ·omega
 obtain ⟨g1, g2⟩ := frzL_ok (hT.sub hsub) hcy hfz
 rw [← hi1] at hrow hcl
 obtain ⟨v', w', hr, hrow', hgr, _⟩ := run_append_own (P := P) w 0 t ty ty' i z i.size i.bytes ht hi hz rfl rfl hzs (by omega) u us.length us hrow ad m c cy hcl hcells h1 (by simp only [maxLen]; omega) (by rw [hiby]; exact o4.1) (Nat.zero_le _)
 have hblk := append_blk (P := P) ht hi hz hrow rfl hcl hcells h1 (by simp only [maxLen]; omega) (by rw [hiby]; exact o4.1) hr
 have hcm : cy.length = m := by rw [hcl, hi1, Nat.mul_one]
 rw [hi1] at hrow'
 have hs : (V.putσ lab (.tuple (v' :: (us ++ cy)).toArray)).σ lab = some (.tuple (v' :: (us ++ cy)).toArray) := by simp [Val.putσ]
 have hT' := hT.appendG (lab := lab) hf (w' := w') (v := u) (v' := v') (u' := .tuple (v' :: (us ++ cy)).toArray) (lo := some l) (B := .rowl (ds ++ es) ty')
  ⟨[], rfl, v', us ++ cy, hs, by rw [List.length_append, hcm]; exact hrow'⟩ (fun q hq => by simpa [SB.blk, hs, tupBlk] using hq) hgr hblk (fun h => by cases h)
  (fun l' hl' => by cases hl'; exact ⟨_, hsub l _ hB, rfl, fun q hq => by simp [SB.blk, hσ, tupBlk, hq]⟩) (.rsl lab (us.length + m)) [(us.length + m) * te.bytes ≤ 140737488355328 ∧ us.length + m ≤ 9223372036854775807]
  ⟨v', us ++ cy, hs, by simp [hl, g1], fun q uu d hu hd => by
   by_cases hq : q < us.length
   ·rw [List.getElem?_append_left hq] at hu
    rw [List.getElem?_append_left (by omega)] at hd
    exact hfr q uu d hu hd
   ·rw [List.getElem?_append_right (by omega)] at hu
    rw [List.getElem?_append_right (by omega), ← hl] at hd
    exact g2 _ uu d hu hd⟩
 refine ⟨_, v', w', hr, Val.putσ_ext hf lab (Nat.le_refl _) (by omega) _, ?_, hT'⟩
 simp only [den, hs, Option.bind_some, rslV, List.head?_cons]
 rcases hrow'.2 with ⟨_, h0⟩ | ⟨b, cap, cur, rfl, _, _, hle, _⟩
 ·omega
 ·unfold rosV; exact if_pos ⟨rfl, hle, .inr rfl⟩
def partV (j h : Nat) : Value → Value
 | .slice ad _ c => .slice (if c = j then ad else ad.map (·.add j)) (h - j) (c - j)
 | v => v
theorem FrozenRd.part {u : Value} {xs : List Int} {j h : Nat} (hF : FrozenRd w0 M u xs) (hj : j ≤ h) (hh : h ≤ xs.length) : FrozenRd w0 M (partV j h u) ((xs.drop j).take (h - j)) := by
 have hlen : ((xs.drop j).take (h - j)).length = h - j := by simp; omega
 obtain ⟨hr, hb⟩ := hF
 rcases hr with ⟨⟨ad, rfl⟩, rfl⟩ | ⟨b, base, c, rfl, hlt, hle, hcell⟩
 ·have : j = 0 ∧ h = 0 := by simp at hh; omega
  obtain ⟨rfl, rfl⟩ := this
  exact ⟨.inl ⟨⟨ad, by simp [partV]⟩, by simp⟩, fun n hn => by simp [partV, roBlk] at hn⟩
 ·by_cases hcj : c = j
  ·subst hcj
   have h0 : h - c = 0 := by omega
   refine ⟨.inr ⟨b, base, 0, by simp [partV, h0], hlt, by rw [hlen]; omega, fun q v hq => ?_⟩, fun n hn => ?_⟩
   ·rw [h0] at hq; simp at hq
   ·simp [partV, roBlk] at hn
  ·refine ⟨.inr ⟨b, base + j, c - j, by simp [partV, hcj, hlen, add_addr], hlt, by rw [hlen]; omega, fun q v hq => ?_⟩, fun n hn => ?_⟩
   ·rw [Nat.add_assoc]
    apply hcell
    simp only [List.map_take, List.map_drop, List.getElem?_take] at hq
    split at hq
    ·rwa [List.getElem?_drop] at hq
    ·cases hq
   ·refine hb n ?_
    simp only [partV, if_neg hcj] at hn
    have := roBlk_own hn
    obtain ⟨c', rfl⟩ : ∃ c', c = c' + 1 := ⟨c - 1, by omega⟩
    simpa [roBlk, Value.ownBlock, add_addr] using this
def eSliceF (Γ : Env) (g : Nat → Option SV) (T : Tab) (t : TypeId) (x : Operand) (lo hi mx : Option Operand) (lab : Nat) : Option Eff :=
 match ev Γ g x, Γ.ty t, mx with
 | some (.ros l n), some ti, none => match ti.desc with
   | .slice el => match Γ.ty el, T l, bnd Γ g hi false n, bnd Γ g lo true 0 with
     | some te, some (.rof xs), some (_, h), some (_, j) => match Nat.beq te.size 1 with
       | true => some { obl := [0 ≤ j ∧ j ≤ h ∧ h ≤ n], val := .ros lab (h.toNat - j.toNat), new := [.rof ((xs.drop j.toNat).take (h.toNat - j.toNat))] }
       | false => none
     | _, _, _, _ => none
   | _ => none
 | _, _, _ => none
theorem eSliceF_ok (hty : TyOK P Γ) (ht : TmpOK V g a) (hg : GlobOK Γ V) {T' : Tab} (hsub : ∀ l B, T' l = some B → T l = some B) (hT : TabOK w0 M V T w) {t : TypeId} {x : Operand} {lo hi mx : Option Operand} (hop : o.op = .slice t x lo hi mx) {lab : Nat} (hf : V.fresh lab)
  (he : eSliceF Γ g T' t x lo hi mx lab = some e) (ho : ∀ q ∈ e.obl, q) : Sim P w0 M V T lab e o a w := by
 unfold eSliceF at he
 split at he
 case h_2 => cases he
 rename_i l n ti hx hti
 split at he
 case h_2 => cases he
 rename_i el hd
 split at he
 case h_2 => cases he
 rename_i te xs sh h sj j hte hB hh hj
 split at he
 case h_2 => cases he
 rename_i hs1
 have hs1 := Nat.eq_of_beq_eq_true hs1
 simp only [Option.some.injEq] at he
 subst he
 have hb : 0 ≤ j ∧ j ≤ h ∧ h ≤ n := ho _ (by simp)
 have ex := ev_ok ht hg hx
 obtain ⟨u, hσ, hF⟩ := hT.fro l _ (hsub l _ hB)
 simp only [den, hσ, Option.bind_some] at ex
 obtain ⟨exv, hv⟩ := rosV_ok ex
 have hnx : n = xs.length := by
  have h1 := hF.1.ros
  rcases hv with ⟨⟨ad, rfl⟩, h0⟩ | ⟨b, base, c, rfl, _⟩
  ·rcases hF.1 with ⟨_, rfl⟩ | ⟨_, _, _, h2, _⟩
   ·simpa using h0
   ·injection h2 with _ h3 _; omega
  ·rcases hF.1 with ⟨⟨ad, h2⟩, rfl⟩ | ⟨_, _, _, h2, _⟩
   ·injection h2 with _ h3 _
   ·injection h2 with _ h3 _
 obtain ⟨ad, c, rfl, hc⟩ : ∃ ad c, u = .slice ad n c ∧ n ≤ c := by
  rcases hv with ⟨⟨ad, rfl⟩, h0⟩ | ⟨b, base, c, rfl, hc⟩
  ·exact ⟨ad, 0, by rw [h0], by omega⟩
  ·exact ⟨_, c, rfl, hc⟩
 have hu := (hty t ti hti).1
 rw [hd] at hu
 obtain ⟨_, i, z, hi', hisz, _⟩ := hty el te hte
 have hr := run_bounds (P := P) (w := w) (a := a) true n c (lo := lo) (hi := hi) (mx := none) (m := (c : Int)) (h := h) (k := j) (.inl ⟨rfl, rfl⟩) (bnd_ok ht hg hh) (bnd_ok ht hg hj) rfl ⟨by omega, by omega, by omega, by omega, by omega, by omega⟩
 have hFp := hF.part (j := j.toNat) (h := h.toNat) (by omega) (by omega)
 have hlen : ((xs.drop j.toNat).take (h.toNat - j.toNat)).length = h.toNat - j.toNat := by simp; omega
 have hrun : (execOp a.eval o).run P w = .ok (.value (partV j.toNat h.toNat (.slice ad n c))) w := by
  unfold execOp
  simp only [hop, exv, Option.map_none, Instr.sliceAt, Instr.slice, Sem.run_bind, run_underlying hu w, Result.andThen_ok, Sem.run_pure, run_sizeOf hi'] at hr ⊢
  simp only [hr, Result.andThen_ok, hisz, hs1, Nat.mul_one, Int.toNat_natCast, partV]
 intro K Q hK
 unfold Oper.wp
 rw [hrun, Oper.upon_value]
 have hs2 : (V.putσ lab (partV j.toNat h.toNat (.slice ad n c))).σ lab = some (partV j.toNat h.toNat (.slice ad n c)) := by simp [Val.putσ]
 refine hK (V.putσ lab (partV j.toNat h.toNat (.slice ad n c))) _ w (Val.putσ_ext hf lab (Nat.le_refl _) (by omega) _) ?_ ?_
 ·have := hFp.1.ros
  rw [hlen] at this
  simp only [den, hs2, Option.bind_some, this]
 ·refine hT.step (N := fun m => if m = lab then some (.rof ((xs.drop j.toNat).take (h.toNat - j.toNat))) else none) (Val.putσ_ext hf lab (Nat.le_refl _) (by omega) _).1 (fun m C hm => ?_) (fun m C hm => ?_) (fun m C q hm hq => ?_) (fun m C m' C' q hne hm hm' ho2 _ => ?_) (Nat.le_refl _) (fun _ _ _ => rfl) rfl rfl rfl (fun m C hm => ?_)
  ·unfold upd Eff.tab at hm
   simp only [newL, List.nil_append, look] at hm
   by_cases e : m = lab
   ·subst e
    left
    simpa using hm
   ·right
    refine ⟨if_neg e, ?_⟩
    have : Nat.beq lab m = false := by
     cases hb2 : Nat.beq lab m with
     | false => rfl
     | true => exact absurd (Nat.eq_of_beq_eq_true hb2).symm e
    simpa [this] using hm
  ·split at hm
   ·cases hm; exact ⟨[], rfl, trivial⟩
   ·cases hm
  ·split at hm
   ·cases hm; cases hq
   ·cases hm
  ·split at hm
   ·cases hm; cases ho2
   ·cases hm
  ·split at hm
   ·rename_i e
    subst e
    cases hm
    exact ⟨_, hs2, hFp⟩
   ·cases hm
end Lists
def labOf : SV → Option Nat
 | .slc l _ _ _ _ => some l
 | .buf l => some l
 | .bslc l _ _ => some l
 | .ros l _ => some l
 | .slcR l _ _ _ => some l
 | _ => none
section Pairs
variable {P : Program} {Γ : Env} {V : Val} {w w0 : World} {M : Nat → Prop} {T : Tab} {g : Nat → Option SV} {a : Act} {o : Oper} {e : Eff}
def prsB : SB → Option (List (Int × Int))
 | .rowp xs _ => some xs
 | .rop xs => some xs
 | _ => none
def seqRp (T : Tab) : SV → Option (List (Int × Int))
 | .raw (.slice none 0 0) => some []
 | .buf l => match T l with
   | some B => prsB B
   | _ => none
 | .ros l _ => match T l with
   | some (.rop xs) => some xs
   | _ => none
 | _ => none
theorem prsB_ok {l : Nat} {B : SB} {xs : List (Int × Int)} (hok : okB V w l B) (h : prsB B = some xs) : ∃ u, V.σ l = some u ∧ RpOK w u xs ∧ ∀ n, roBlk u = some n → B.blk V l = some n := by
 obtain ⟨cs, hc, hh⟩ := hok
 cases B with
 | rowp ys ty =>
   cases h
   cases hc
   obtain ⟨u, hσ, hrow⟩ := hh
   refine ⟨u, hσ, ?_, fun n hn => by simp [SB.blk, hσ, roBlk_own hn]⟩
   rcases hrow.2 with ⟨rfl, h0⟩ | ⟨gb, cap, cur, rfl, _, hh, hle, _, _, htake⟩
   ·exact .inl ⟨.nil, List.eq_nil_of_length_eq_zero h0⟩
   ·refine .inr ⟨gb, 0, cap, rfl, (Array.getElem?_eq_some_iff.1 hh).1, hle, fun j u hj => ?_⟩
    rw [cell_of_row w gb _ _ _ _ hh]
    rw [← htake, List.getElem?_take] at hj
    split at hj
    ·simpa using hj
    ·cases hj
 | rop ys =>
   cases h
   obtain ⟨u, hσ, hrow⟩ := hh
   exact ⟨u, hσ, hrow, fun n hn => by simp [SB.blk, hσ, hn]⟩
 | _ => cases h
theorem seqRp_ok {v : SV} {x : Value} {ys : List (Int × Int)} (hT : TabOK w0 M V T w) (hv : den V v = some x) (h : seqRp T v = some ys) :
  RpOK w x ys ∧ ∀ n, roBlk x = some n → ∃ l B, labOf v = some l ∧ T l = some B ∧ B.blk V l = some n := by
 unfold seqRp at h
 split at h
 ·cases h
  simp only [den, Option.some.injEq] at hv
  subst hv
  exact ⟨.inl ⟨.nil, rfl⟩, fun n hn => by cases hn⟩
 ·rename_i l
  split at h
  case h_2 => cases h
  rename_i B hB
  obtain ⟨u, hσ, h1, h2⟩ := prsB_ok (hT.ok l _ hB) h
  simp only [den, hσ, Option.some.injEq] at hv
  subst hv
  exact ⟨h1, fun n hn => ⟨l, _, rfl, hB, h2 n hn⟩⟩
 ·rename_i l n0
  split at h
  case h_2 => cases h
  rename_i xs hB
  cases h
  obtain ⟨cs, hc, u, hσ, hrow⟩ := hT.ok l _ hB
  simp only [den, Option.bind_eq_some_iff] at hv
  obtain ⟨u', hσ', hv⟩ := hv
  rw [hσ] at hσ'
  cases hσ'
  obtain ⟨rfl, _⟩ := rosV_ok hv
  exact ⟨hrow, fun n hn => ⟨l, _, rfl, hB, by simp [SB.blk, hσ, hn]⟩⟩
 ·cases h
theorem RpOK.ros {x : Value} {ys : List (Int × Int)} (h : RpOK w x ys) : rosV ys.length x = some x := by
 rcases h with ⟨⟨a, rfl⟩, rfl⟩ | ⟨b, o, c, rfl, _, hc, _⟩
 ·cases a <;> simp [rosV]
 ·simp [rosV, hc]
def pairsOf : List SV → Option (List (Int × Int))
 | [] => some []
 | .int _ .i64 x :: .int _ .i64 y :: r => (pairsOf r).map ((x, y) :: ·)
 | _ => none
theorem pairsOf_ok {V : Val} : ∀ {cs : List SV} {ps : List (Int × Int)}, pairsOf cs = some ps → denL V cs = some (pairC ps) := by
 intro cs
 fun_induction pairsOf cs with
 | case1 => intro ps h; cases h; rfl
 | case2 s1 x s2 y r ih =>
   intro ps h
   simp only [Option.map_eq_some_iff] at h
   obtain ⟨qs, hq, rfl⟩ := h
   simp [denL, den, ih hq, pairC]
 | case3 => intro ps h; cases h
def srcP (T : Tab) (y : SV) : Option (List (Int × Int)) := match seqRp T y with
 | some ys => some ys
 | none => match seqC T 2 y with
   | some (m, cs) => match pairsOf cs with
     | some ys => match Nat.beq ys.length m with
       | true => some ys
       | false => none
     | none => none
   | none => none
theorem pairC_len : ∀ xs : List (Int × Int), (pairC xs).length = xs.length * 2
 | [] => rfl
 | p :: r => by
   have := pairC_len r
   simp only [pairC, List.flatMap_cons, List.length_append, List.length_cons, List.length_nil] at this ⊢
   omega
theorem pairC_append (xs ys : List (Int × Int)) : pairC (xs ++ ys) = pairC xs ++ pairC ys := by simp [pairC]
theorem pairC_one (xs : List (Int × Int)) : ∀ q ∈ pairC xs, q.oneCell' = true := by
 intro q hq
 simp only [pairC, List.mem_flatMap] at hq
 obtain ⟨p, _, hq⟩ := hq
 simp only [List.mem_cons, List.not_mem_nil, or_false] at hq
 rcases hq with rfl | rfl <;> rfl
theorem srcP_ok {y : SV} {v : Value} {ys : List (Int × Int)} (hT : TabOK w0 M V T w) (hv : den V y = some v) (h : srcP T y = some ys) :
  (∃ a, v = .slice a 0 0 ∧ ys = []) ∨ ∃ (ad : Addr) (c : Nat), v = .slice (some ad) ys.length c ∧ ∀ (j : Nat) (u : Value), (pairC ys)[j]? = some u → w.cell? (ad.add j) = some u := by
 unfold srcP at h
 split at h
 ·rename_i ys' hs
  cases h
  rcases (seqRp_ok hT hv hs).1 with ⟨⟨a, rfl⟩, rfl⟩ | ⟨b, o, c, rfl, _, _, hc⟩
  ·exact .inl ⟨a, rfl, rfl⟩
  ·exact .inr ⟨_, c, rfl, fun j u hj => by rw [add_addr]; exact hc j u hj⟩
 ·split at h
  case h_2 => cases h
  rename_i m cs hs
  split at h
  case h_2 => cases h
  rename_i ys' hp
  split at h
  case h_2 => cases h
  rename_i hl
  have hl := Nat.eq_of_beq_eq_true hl
  cases h
  obtain ⟨xs, h1, _, h3⟩ := seqC_ok hT hv hs
  have e := h1.symm.trans (pairsOf_ok hp)
  cases e
  rcases h3 with ⟨rfl, rfl, h0⟩ | ⟨ad, c, rfl, _, hc⟩
  ·exact .inl ⟨_, rfl, List.eq_nil_of_length_eq_zero hl⟩
  ·exact .inr ⟨ad, c, by rw [hl], hc⟩
def dstP (T : Tab) (el : TypeId) : SV → Option (Option Nat × List (Int × Int))
 | .raw (.slice none 0 0) => some (none, [])
 | .buf l => match T l with
   | some (.rowp xs ty) => match Nat.beq ty el with
     | true => some (some l, xs)
     | false => none
   | _ => none
 | _ => none
theorem dstP_ok {el : TypeId} {v : SV} {x : Value} {lo : Option Nat} {xs : List (Int × Int)} (hT : TabOK w0 M V T w) (hv : den V v = some x) (h : dstP T el v = some (lo, xs)) :
  w.ownsRow 0 el 2 x xs.length (pairC xs) ∧ (lo = none → x.ownBlock = none) ∧ ∀ l, lo = some l → ∃ B, T l = some B ∧ B.owned = true ∧ ∀ n, x.ownBlock = some n → B.blk V l = some n := by
 unfold dstP at h
 split at h
 ·cases h
  simp only [den, Option.some.injEq] at hv
  subst hv
  exact ⟨World.ownsRow_nil w 0 el 2, fun _ => rfl, fun l hl => (by cases hl)⟩
 ·rename_i l
  split at h
  case h_2 => cases h
  rename_i ys ty hB
  split at h
  case h_2 => cases h
  rename_i hty
  have := Nat.eq_of_beq_eq_true hty
  subst this
  cases h
  obtain ⟨cs, hc, u, hσ, hrow⟩ := hT.ok l _ hB
  cases hc
  simp only [den, hσ, Option.some.injEq] at hv
  subst hv
  exact ⟨hrow, fun h => (by cases h), fun l' hl' => by cases hl'; exact ⟨_, hB, rfl, fun n hn => by simp [SB.blk, hσ, hn]⟩⟩
 ·cases h
def eAppP (T : Tab) (te : TI) (el : TypeId) (lab : Nat) (x y : SV) : Option Eff :=
 match Nat.beq te.size 2 && Nat.beq te.zero.length 2, dstP T el x with
 | true, some (lo, xs) => match srcP T y with
   | some ys => some { obl := [(xs.length + ys.length) * te.bytes ≤ 140737488355328 ∧ xs.length + ys.length ≤ 9223372036854775807], val := .buf lab, new := [.rowp (xs ++ ys) el], wr := goneL lo }
   | none => none
 | _, _ => none
theorem eAppP_ok (hty : TyOK P Γ) {T' : Tab} (hsub : ∀ l B, T' l = some B → T l = some B) (hT : TabOK w0 M V T w) {lab : Nat} (hf : V.fresh lab) {t ty el : TypeId} {te : TI} (ht : P.underlying t = some (.slice el)) (hte : Γ.ty el = some te)
  {x y : SV} {u v : Value} (hx : den V x = some u) (hy : den V y = some v) (he : eAppP T' te el lab x y = some e) (ho : ∀ q ∈ e.obl, q) : SimV P w0 M V T lab e (Builtin.append_ #[t, t] ty #[u, v]) w := by
 unfold eAppP at he
 split at he
 case h_2 => cases he
 rename_i lo xs hsz hd
 split at he
 case h_2 => cases he
 rename_i ys hr
 cases he
 simp only [Bool.and_eq_true] at hsz
 have hs2 := Nat.eq_of_beq_eq_true hsz.1
 have hz2 := Nat.eq_of_beq_eq_true hsz.2
 obtain ⟨_, i, z, hi, hisz, hiby, hz, hzero⟩ := hty el te hte
 have hi2 : i.size = 2 := hisz.trans hs2
 have hzs : z.cells.size = i.size := by
  have h1 := denL_length (hzero V)
  rw [hi2, ← hz2, ← h1]; simp
 obtain ⟨hb1, hb2⟩ := ho _ List.mem_cons_self
 obtain ⟨hrow, hnone, hlo⟩ := dstP_ok (hT.sub hsub) hx hd
 have hlo' : ∀ l, lo = some l → ∃ B, T l = some B ∧ B.owned = true ∧ ∀ n, u.ownBlock = some n → B.blk V l = some n := fun l hl => by
  obtain ⟨B, h1, h2, h3⟩ := hlo l hl; exact ⟨B, hsub l B h1, h2, h3⟩
 rw [← hi2] at hrow
 have hmax : xs.length + ys.length ≤ maxLen := by simp only [maxLen]; omega
 have go : ∀ (ad : Addr) (c : Nat), v = .slice (some ad) ys.length c → (∀ (j : Nat) (u : Value), (pairC ys)[j]? = some u → w.cell? (ad.add j) = some u) → SimV P w0 M V T lab { obl := [(xs.length + ys.length) * te.bytes ≤ 140737488355328 ∧ xs.length + ys.length ≤ 9223372036854775807], val := .buf lab, new := [.rowp (xs ++ ys) el], wr := goneL lo } (Builtin.append_ #[t, t] ty #[u, v]) w := by
  rintro ad c rfl hcells
  have hl : (pairC ys).length = ys.length * i.size := by rw [hi2]; exact pairC_len ys
  obtain ⟨v', w', hrun, hrow', hgr, _⟩ := run_append_own (P := P) w 0 t ty el i z i.size i.bytes ht hi hz rfl rfl hzs (by omega) u xs.length (pairC xs) hrow ad ys.length c (pairC ys) hl hcells (pairC_one ys) hmax (by rw [hiby]; exact hb1) (Nat.zero_le _)
  have hblk := append_blk (P := P) ht hi hz hrow rfl hl hcells (pairC_one ys) hmax (by rw [hiby]; exact hb1) hrun
  refine ⟨V.putσ lab v', v', w', hrun, Val.putσ_ext hf lab (Nat.le_refl _) (by omega) v', by simp [den, Val.putσ], ?_⟩
  have hok : okB (V.putσ lab v') w' lab (.rowp (xs ++ ys) el) := ⟨pairC (xs ++ ys), rfl, v', by simp [Val.putσ], by rw [List.length_append, pairC_append, ← hi2]; exact hrow'⟩
  exact hT.appendG hf hok (fun n hb => by simpa [SB.blk, Val.putσ] using hb) hgr hblk hnone hlo' _ _
 rcases srcP_ok (hT.sub hsub) hy hr with ⟨ad, rfl, rfl⟩ | ⟨ad, c, hv, hcells⟩
 ·cases ad with
  | some ad => exact go ad 0 rfl (fun j u hj => by simp [pairC] at hj)
  | none =>
    have hrun := run_append_owned_none (P := P) (w := w) 0 t ty el i i.size ht hi u xs.length _ hrow
    refine ⟨V.putσ lab u, u, w, hrun, Val.putσ_ext hf lab (Nat.le_refl _) (by omega) u, by simp [den, Val.putσ], ?_⟩
    have hok : okB (V.putσ lab u) w lab (.rowp (xs ++ []) el) := ⟨pairC (xs ++ []), rfl, u, by simp [Val.putσ], by rw [List.append_nil, ← hi2]; exact hrow⟩
    exact hT.appendG hf hok (fun n hb => by simpa [SB.blk, Val.putσ] using hb) ⟨rfl, rfl, rfl, Nat.le_refl _, fun _ _ _ => rfl⟩ (.inl rfl) hnone hlo' _ _
 ·exact go ad c hv hcells
def eIndexP (Γ : Env) (g : Nat → Option SV) (t : TypeId) (x y : Operand) : Option Eff :=
 match ev Γ g x, ev Γ g y, Γ.ty t with
 | some (.ros l n), some (.int _ _ k), some ti => match ti.desc with
   | .slice el => match Γ.ty el with
     | some te => match Nat.beq te.size 2 with
       | true => some { obl := [0 ≤ k ∧ k < n], val := .bptr l (2 * k.toNat) }
       | false => none
     | none => none
   | _ => none
 | _, _, _ => none
theorem eIndexP_ok (hty : TyOK P Γ) (ht : TmpOK V g a) (hg : GlobOK Γ V) (hT : TabOK w0 M V T w) {t : TypeId} {x y : Operand} (hop : o.op = .indexAddr t x y)
  (he : eIndexP Γ g t x y = some e) (ho : ∀ q ∈ e.obl, q) (lab : Nat) : Sim P w0 M V T lab e o a w := by
 unfold eIndexP at he
 split at he
 case h_2 => cases he
 rename_i l n sk kk k ti hx hy hti
 split at he
 case h_2 => cases he
 rename_i el hd
 split at he
 case h_2 => cases he
 rename_i te hte
 split at he
 case h_2 => cases he
 rename_i hs2
 have hs2 := Nat.eq_of_beq_eq_true hs2
 simp only [Option.some.injEq] at he
 subst he
 have hb : 0 ≤ k ∧ k < n := ho _ (by simp)
 have ex := ev_ok ht hg hx
 have ey := ev_ok ht hg hy
 simp only [den, Option.some.injEq] at ey
 simp only [den, Option.bind_eq_some_iff] at ex
 obtain ⟨u, hσ, hv⟩ := ex
 obtain ⟨e1, hv⟩ := rosV_ok hv
 subst e1
 rcases hv with ⟨_, rfl⟩ | ⟨b, o0, c, hv, _⟩
 ·omega
 obtain ⟨_, i, z, hi, hisz, _⟩ := hty el te hte
 have hu := (hty t ti hti).1
 rw [hd] at hu
 refine sim_pure (x := .pointer (some ⟨b, o0 + k.toNat * te.size, none⟩)) ?_ (by simp [den, hσ, hv, add_addr, hs2, Nat.mul_comm]) rfl rfl hT
 unfold execOp
 simp only [hop, hv, ← ey, Instr.indexAt, asIntOf, Sem.run_bind, Sem.run_pure, run_underlying hu w, Result.andThen_ok, if_pos hb, run_sizeOf hi, hisz, add_addr]
def eLoadP (Γ : Env) (g : Nat → Option SV) (T : Tab) (t : TypeId) (x : Operand) : Option Eff :=
 match ev Γ g x, Γ.ty t with
 | some (.bptr l off), some ti => match (T l).bind prsB, aggD ti.desc && Nat.beq ti.size 2 with
   | some xs, true => some { obl := [off = 2 * (off / 2) ∧ off / 2 < xs.length], val := .agg [.int false .i64 (xs.getD (off / 2) (0, 0)).1, .int false .i64 (xs.getD (off / 2) (0, 0)).2] }
   | _, _ => none
 | _, _ => none
theorem pairC_at {xs : List (Int × Int)} {i : Nat} (h : i < xs.length) : (pairC xs)[2 * i]? = some (.int .i64 (xs.getD i (0, 0)).1) ∧ (pairC xs)[2 * i + 1]? = some (.int .i64 (xs.getD i (0, 0)).2) := by
 induction xs generalizing i with
 | nil => simp at h
 | cons p r ih =>
   have e : pairC (p :: r) = Value.int .i64 p.1 :: Value.int .i64 p.2 :: pairC r := rfl
   cases i with
   | zero => rw [e]; exact ⟨rfl, rfl⟩
   | succ i =>
     have := ih (i := i) (by simpa using h)
     rw [e, show 2 * (i + 1) = 2 * i + 1 + 1 by omega]
     simpa using this
theorem eLoadP_ok (hty : TyOK P Γ) (ht : TmpOK V g a) (hg : GlobOK Γ V) {T' : Tab} (hsub : ∀ l B, T' l = some B → T l = some B) (hT : TabOK w0 M V T w) {t : TypeId} {x : Operand} (hop : o.op = .load t x)
  (he : eLoadP Γ g T' t x = some e) (ho : ∀ q ∈ e.obl, q) (lab : Nat) : Sim P w0 M V T lab e o a w := by
 unfold eLoadP at he
 split at he
 case h_2 => cases he
 rename_i l off ti hx hti
 split at he
 case h_2 => cases he
 rename_i xs hB hck
 simp only [Option.bind_eq_some_iff] at hB
 obtain ⟨B, hB, hp⟩ := hB
 simp only [Bool.and_eq_true] at hck
 have hs2 := Nat.eq_of_beq_eq_true hck.2
 simp only [Option.some.injEq] at he
 subst he
 obtain ⟨h1, h2⟩ := ho _ List.mem_cons_self
 have ex := ev_ok ht hg hx
 obtain ⟨u, hσ, hrp, _⟩ := prsB_ok (hT.ok l _ (hsub l _ hB)) hp
 obtain ⟨hu, i, z, hi, hsz, _⟩ := hty t ti hti
 rcases hrp with ⟨_, rfl⟩ | ⟨b, base, c, rfl, _, _, hcell⟩
 ·simp at h2
 simp only [den, hσ, add_addr, Option.some.injEq] at ex
 obtain ⟨g1, g2⟩ := pairC_at h2
 rw [← h1] at g1 g2
 have hrun := (run_loadVar_cells (P := P) hu hi b (base + off) [.int .i64 (xs.getD (off / 2) (0, 0)).1, .int .i64 (xs.getD (off / 2) (0, 0)).2] (by rw [hsz, hs2]; rfl) (fun j v hj => by
  match j, hj with
  | 0, hj => simp only [List.getElem?_cons_zero, Option.some.injEq] at hj; subst hj; exact hcell _ _ g1
  | 1, hj => simp only [List.getElem?_cons_succ, List.getElem?_cons_zero, Option.some.injEq] at hj; subst hj; rw [Nat.add_assoc]; exact hcell _ _ g2
  | j + 2, hj => simp at hj)).1 hck.1
 refine sim_pure (x := .agg #[.int .i64 (xs.getD (off / 2) (0, 0)).1, .int .i64 (xs.getD (off / 2) (0, 0)).2]) ?_ (by simp [den, denL]) rfl rfl hT
 unfold execOp
 simp only [hop, ← ex, Instr.loadAt, Instr.sureAddr, Sem.run_bind, Sem.run_pure, Result.andThen_ok, hrun]
def partP (j h : Nat) : Value → Value
 | .slice ad _ c => .slice (if c = j then ad else ad.map (·.add (j * 2))) (h - j) (c - j)
 | v => v
theorem RpOK.part {u : Value} {xs : List (Int × Int)} {j h : Nat} (hF : RpOK w u xs) (hj : j ≤ h) (hh : h ≤ xs.length) : RpOK w (partP j h u) ((xs.drop j).take (h - j)) ∧ ∀ n, roBlk (partP j h u) = some n → roBlk u = some n := by
 have hlen : ((xs.drop j).take (h - j)).length = h - j := by simp; omega
 rcases hF with ⟨⟨ad, rfl⟩, rfl⟩ | ⟨b, base, c, rfl, hlt, hle, hcell⟩
 ·have : j = 0 ∧ h = 0 := by simp at hh; omega
  obtain ⟨rfl, rfl⟩ := this
  exact ⟨.inl ⟨⟨ad, by simp [partP]⟩, by simp⟩, fun n hn => by simp [partP, roBlk] at hn⟩
 ·by_cases hcj : c = j
  ·subst hcj
   have h0 : h - c = 0 := by omega
   refine ⟨.inr ⟨b, base, 0, by simp [partP, h0], hlt, by rw [hlen]; omega, fun q v hq => ?_⟩, fun n hn => ?_⟩
   ·rw [h0] at hq; simp [pairC] at hq
   ·simp [partP, roBlk] at hn
  ·refine ⟨.inr ⟨b, base + j * 2, c - j, by simp [partP, hcj, hlen, add_addr], hlt, by rw [hlen]; omega, fun q v hq => ?_⟩, fun n hn => ?_⟩
   ·rw [Nat.add_assoc]
    apply hcell
    have hq2 : (pairC ((xs.drop j).take (h - j)))[q]? = (pairC xs)[j * 2 + q]? := by
     have hl2 : q < (pairC ((xs.drop j).take (h - j))).length := by
      rcases Nat.lt_or_ge q (pairC ((xs.drop j).take (h - j))).length with h1 | h1
      ·exact h1
      ·rw [List.getElem?_eq_none h1] at hq; cases hq
     rw [pairC_len, hlen] at hl2
     have e : xs = xs.take j ++ ((xs.drop j).take (h - j) ++ (xs.drop j).drop (h - j)) := by rw [List.take_append_drop, List.take_append_drop]
     have e2 : pairC xs = pairC (xs.take j) ++ (pairC ((xs.drop j).take (h - j)) ++ pairC ((xs.drop j).drop (h - j))) := by
      rw [← pairC_append, ← pairC_append, ← e]
     have l1 : (pairC (xs.take j)).length = j * 2 := by rw [pairC_len]; simp; omega
     rw [e2, List.getElem?_append_right (by omega), l1, Nat.add_sub_cancel_left, List.getElem?_append_left (by rw [pairC_len, hlen]; exact hl2)]
    rw [← hq2]; exact hq
   ·simp only [partP, if_neg hcj] at hn
    have := roBlk_own hn
    obtain ⟨c', rfl⟩ : ∃ c', c = c' + 1 := ⟨c - 1, by omega⟩
    simpa [roBlk, Value.ownBlock, add_addr] using this
def eSliceP (Γ : Env) (g : Nat → Option SV) (T : Tab) (t : TypeId) (x : Operand) (lo hi mx : Option Operand) (lab : Nat) : Option Eff :=
 match ev Γ g x, Γ.ty t, mx with
 | some (.ros l n), some ti, none => match ti.desc with
   | .slice el => match Γ.ty el, T l, bnd Γ g hi false n, bnd Γ g lo true 0 with
     | some te, some (.rop xs), some (_, h), some (_, j) => match Nat.beq te.size 2 with
       | true => some { obl := [0 ≤ j ∧ j ≤ h ∧ h ≤ n], val := .ros lab (h.toNat - j.toNat), new := [.rop ((xs.drop j.toNat).take (h.toNat - j.toNat))] }
       | false => none
     | _, _, _, _ => none
   | _ => none
 | _, _, _ => none
theorem eSliceP_ok (hty : TyOK P Γ) (ht : TmpOK V g a) (hg : GlobOK Γ V) {T' : Tab} (hsub : ∀ l B, T' l = some B → T l = some B) (hT : TabOK w0 M V T w) {t : TypeId} {x : Operand} {lo hi mx : Option Operand} (hop : o.op = .slice t x lo hi mx) {lab : Nat} (hf : V.fresh lab)
  (he : eSliceP Γ g T' t x lo hi mx lab = some e) (ho : ∀ q ∈ e.obl, q) : Sim P w0 M V T lab e o a w := by
 unfold eSliceP at he
 split at he
 case h_2 => cases he
 rename_i l n ti hx hti
 split at he
 case h_2 => cases he
 rename_i el hd
 split at he
 case h_2 => cases he
 rename_i te xs sh h sj j hte hB hh hj
 split at he
 case h_2 => cases he
 rename_i hs2
 have hs2 := Nat.eq_of_beq_eq_true hs2
 simp only [Option.some.injEq] at he
 subst he
 have hb : 0 ≤ j ∧ j ≤ h ∧ h ≤ n := ho _ (by simp)
 have ex := ev_ok ht hg hx
 have hTB := hsub l _ hB
 obtain ⟨u, hσ, hF, hblk⟩ := prsB_ok (hT.ok l _ hTB) rfl
 simp only [den, hσ, Option.bind_some] at ex
 obtain ⟨exv, hv⟩ := rosV_ok ex
 obtain ⟨ad, c, hue, hc, hn⟩ : ∃ ad c, u = .slice ad xs.length c ∧ xs.length ≤ c ∧ n = xs.length := by
  rcases hF with ⟨⟨ad, rfl⟩, h0⟩ | ⟨b, base, c, rfl, _, hc, _⟩
  ·rcases hv with ⟨_, h1⟩ | ⟨b, o, c, h1, h2⟩
   ·exact ⟨ad, 0, by rw [h0]; rfl, by simp [h0], by rw [h1, h0]; rfl⟩
   ·cases h1; exact ⟨_, 0, by rw [h0]; rfl, by simp [h0], by rw [h0]; rfl⟩
  ·rcases hv with ⟨⟨_, h1⟩, h2⟩ | ⟨b, o, c, h1, h2⟩
   ·injection h1 with _ h3 _; exact ⟨_, c, rfl, hc, by omega⟩
   ·injection h1 with _ h3 _; exact ⟨_, _, rfl, hc, h3.symm⟩
 subst hn
 have hu := (hty t ti hti).1
 rw [hd] at hu
 obtain ⟨_, i, z, hi', hisz, _⟩ := hty el te hte
 have hr := run_bounds (P := P) (w := w) (a := a) true xs.length c (lo := lo) (hi := hi) (mx := none) (m := (c : Int)) (h := h) (k := j) (.inl ⟨rfl, rfl⟩) (bnd_ok ht hg hh) (bnd_ok ht hg hj) rfl ⟨by omega, by omega, by omega, by omega, by omega, by omega⟩
 obtain ⟨hFp, hbp⟩ := hF.part (j := j.toNat) (h := h.toNat) (by omega) (by omega)
 have hlen : ((xs.drop j.toNat).take (h.toNat - j.toNat)).length = h.toNat - j.toNat := by simp; omega
 have hrun : (execOp a.eval o).run P w = .ok (.value (partP j.toNat h.toNat u)) w := by
  unfold execOp
  simp only [hop, exv, hue, Option.map_none, Instr.sliceAt, Instr.slice, Sem.run_bind, run_underlying hu w, Result.andThen_ok, Sem.run_pure, run_sizeOf hi'] at hr ⊢
  simp only [hr, Result.andThen_ok, hisz, hs2, Int.toNat_natCast, partP]
 intro K Q hK
 unfold Oper.wp
 rw [hrun, Oper.upon_value]
 have hext := Val.putσ_ext hf lab (Nat.le_refl _) (by omega) (partP j.toNat h.toNat u)
 have hse : (V.putσ lab (partP j.toNat h.toNat u)).σ lab = some (partP j.toNat h.toNat u) := by simp [Val.putσ]
 refine hK (V.putσ lab (partP j.toNat h.toNat u)) _ w hext ?_ ?_
 ·simp only [den, hse, Option.bind_some]
  rcases hFp with ⟨⟨ad', h1⟩, h2⟩ | ⟨b, o', c', h1, _, h2, _⟩
  ·rw [h1]
   have : h.toNat - j.toNat = 0 := by rw [← hlen, h2]; rfl
   rw [this]
   cases ad' <;> simp [rosV]
  ·rw [h1, hlen]
   rw [hlen] at h2
   simp [rosV, h2]
 ·refine hT.step (N := fun m => if m = lab then some (.rop ((xs.drop j.toNat).take (h.toNat - j.toNat))) else none) hext.1 (fun m C hm => ?_) (fun m C hm => ?_) (fun m C q hm hq => ?_) (fun m C m' C' q hne hm hm' ho2 _ => ?_) (Nat.le_refl _) (fun _ _ _ => rfl) rfl rfl rfl (fun m C hm => ?_)
  ·unfold upd Eff.tab at hm
   simp only [newL, List.nil_append] at hm
   by_cases e : m = lab
   ·subst e
    left
    rw [look_cons_eq] at hm
    rw [if_pos rfl]; exact hm
   ·right
    rw [look_cons_ne (fun q => e q.symm)] at hm
    exact ⟨by rw [if_neg e], hm⟩
  ·split at hm
   ·rename_i e; subst e; cases hm; exact ⟨_, rfl, _, hse, hFp⟩
   ·cases hm
  ·right; right
   split at hm
   ·rename_i e
    subst e
    cases hm
    refine ⟨rfl, fun l2 B2 hn h2 h3 h4 => ?_⟩
    simp only [SB.blk, hse, Option.bind_some] at hq
    by_cases e2 : l2 = l
    ·subst e2; rw [hTB] at h2; cases h2; cases h3
    ·exact hT.dist l2 B2 l _ q e2 h2 hTB h3 h4 (hblk q (hbp q hq))
   ·cases hm
  ·split at hm
   ·cases hm; cases ho2
   ·cases hm
  ·split at hm
   ·cases hm; trivial
   ·cases hm
def eSliceW (Γ : Env) (g : Nat → Option SV) (T : Tab) (t : TypeId) (x : Operand) (lo hi mx : Option Operand) (lab : Nat) : Option Eff :=
 match ev Γ g x, Γ.ty t, lo, mx with
 | some (.raw (.slice (some ad) n c)), some ti, none, none => match ti.desc with
   | .slice el => match Γ.ty el, bnd Γ g hi false n with
     | some _, some (_, h) => some { obl := [0 ≤ h ∧ h ≤ c], val := .raw (.slice (some ad) h.toNat c) }
     | _, _ => none
   | _ => none
 | some (.rsl l n), some ti, none, none => match ti.desc with
   | .slice el => match Γ.ty el, T l, bnd Γ g hi false n with
     | some te, some (.rolz ds z), some (_, h) => match Nat.beq te.size 1 with
       | true => some { obl := [0 ≤ h ∧ h ≤ n], val := .rsl lab h.toNat, new := [.rol ((ds ++ List.replicate z []).take h.toNat)] }
       | false => none
     | _, _, _ => none
   | _ => none
 | _, _, _, _ => none
theorem eSliceW_ok (hty : TyOK P Γ) (ht : TmpOK V g a) (hg : GlobOK Γ V) {T' : Tab} (hsub : ∀ l B, T' l = some B → T l = some B) (hT : TabOK w0 M V T w) {t : TypeId} {x : Operand} {lo hi mx : Option Operand} (hop : o.op = .slice t x lo hi mx) {lab : Nat} (hf : V.fresh lab)
  (he : eSliceW Γ g T' t x lo hi mx lab = some e) (ho : ∀ q ∈ e.obl, q) : Sim P w0 M V T lab e o a w := by
 unfold eSliceW at he
 split at he
 case h_3 => cases he
 ·rename_i ad n c ti hx hti
  split at he
  case h_2 => cases he
  rename_i el hd
  split at he
  case h_2 => cases he
  rename_i te sh h hte hh
  simp only [Option.some.injEq] at he
  subst he
  have hb : 0 ≤ h ∧ h ≤ c := ho _ (by simp)
  have ex := ev_ok ht hg hx
  simp only [den, Option.some.injEq] at ex
  have hu := (hty t ti hti).1
  rw [hd] at hu
  obtain ⟨_, i, z, hi', hisz, _⟩ := hty el te hte
  have hr := run_bounds (P := P) (w := w) (a := a) true n c (lo := none) (hi := hi) (mx := none) (m := (c : Int)) (h := h) (k := ((0 : Nat) : Int)) (.inl ⟨rfl, rfl⟩) (bnd_ok ht hg hh) (.inl ⟨rfl, rfl⟩) rfl ⟨by omega, by omega, by omega, by omega, by omega, by omega⟩
  have hrun : (execOp a.eval o).run P w = .ok (.value (.slice (some ad) h.toNat c)) w := by
   unfold execOp
   simp only [hop, ← ex, Option.map_none, Instr.sliceAt, Instr.slice, Sem.run_bind, run_underlying hu w, Result.andThen_ok, Sem.run_pure, run_sizeOf hi'] at hr ⊢
   simp only [hr, Result.andThen_ok, Int.toNat_natCast, Nat.zero_mul, Nat.sub_zero, Option.map_some]
   simp [Addr.add]
  intro K Q hK
  unfold Oper.wp
  rw [hrun, Oper.upon_value]
  exact hK V _ w (V.ext_refl lab) rfl (by rw [upd_none T lab rfl rfl]; exact hT)
 ·rename_i l n ti hx hti
  split at he
  case h_2 => cases he
  rename_i el hd
  split at he
  case h_2 => cases he
  rename_i te ds z sh h hte hB hh
  split at he
  case h_2 => cases he
  rename_i hs1
  have hs1 := Nat.eq_of_beq_eq_true hs1
  simp only [Option.some.injEq] at he
  subst he
  have hb : 0 ≤ h ∧ h ≤ n := ho _ (by simp)
  have ex := ev_ok ht hg hx
  obtain ⟨v, us, hσ, hL, hul, hfr⟩ := nilFro (hT.fro l _ (hsub l _ hB))
  simp only [den, hσ, Option.bind_some, rslV, List.head?_cons] at ex
  obtain ⟨exv, hv⟩ := rosV_ok ex
  obtain ⟨ad, c, rfl, hc⟩ : ∃ ad c, v = .slice ad n c ∧ n ≤ c := by
   rcases hv with ⟨⟨ad, rfl⟩, h0⟩ | ⟨b, base, c, rfl, hc⟩
   ·exact ⟨ad, 0, by rw [h0], by omega⟩
   ·exact ⟨_, c, rfl, hc⟩
  have hn : n = us.length := by
   rcases hL.1 with ⟨⟨ad, h2⟩, rfl⟩ | ⟨_, _, _, h2, _⟩
   ·injection h2
   ·injection h2
  have hu := (hty t ti hti).1
  rw [hd] at hu
  obtain ⟨_, i, zv, hi', hisz, _⟩ := hty el te hte
  have hr := run_bounds (P := P) (w := w) (a := a) true n c (lo := none) (hi := hi) (mx := none) (m := (c : Int)) (h := h) (k := ((0 : Nat) : Int)) (.inl ⟨rfl, rfl⟩) (bnd_ok ht hg hh) (.inl ⟨rfl, rfl⟩) rfl ⟨by omega, by omega, by omega, by omega, by omega, by omega⟩
  have hrun : (execOp a.eval o).run P w = .ok (.value (.slice ad h.toNat c)) w := by
   unfold execOp
   simp only [hop, exv, Option.map_none, Instr.sliceAt, Instr.slice, Sem.run_bind, run_underlying hu w, Result.andThen_ok, Sem.run_pure, run_sizeOf hi'] at hr ⊢
   simp only [hr, Result.andThen_ok, Int.toNat_natCast, Nat.zero_mul, Nat.sub_zero]
   cases ad <;> simp [Addr.add]
  have htl : (us.take h.toNat).length = h.toNat := by rw [List.length_take]; omega
  have hs2 : (V.putσ lab (.tuple (Value.slice ad h.toNat c :: us.take h.toNat).toArray)).σ lab = some (.tuple (Value.slice ad h.toNat c :: us.take h.toNat).toArray) := by simp [Val.putσ]
  have hext := Val.putσ_ext hf lab (Nat.le_refl _) (by omega) (.tuple (Value.slice ad h.toNat c :: us.take h.toNat).toArray)
  have hros : rosV h.toNat (.slice ad h.toNat c) = some (.slice ad h.toNat c) := by
   rcases hv with ⟨⟨ad', h1⟩, h0⟩ | ⟨b, base, c', h1, h2⟩
   ·injection h1 with h3 h4 h5
    subst h3 h5
    have : h.toNat = 0 := by omega
    rw [this]
    cases ad <;> simp [rosV]
   ·injection h1 with h3 h4 h5
    subst h3 h5
    simp [rosV]; omega
  intro K Q hK
  unfold Oper.wp
  rw [hrun, Oper.upon_value]
  refine hK _ _ w hext (by simp only [den, hs2, Option.bind_some, rslV, List.head?_cons, hros]) ?_
  refine hT.step (N := fun m => if m = lab then some (.rol ((ds ++ List.replicate z []).take h.toNat)) else none) hext.1 (fun m C hm => ?_) (fun m C hm => ?_) (fun m C q hm hq => ?_) (fun m C m' C' q hne hm hm' ho2 _ => ?_) (Nat.le_refl _) (fun _ _ _ => rfl) rfl rfl rfl (fun m C hm => ?_)
  ·unfold upd Eff.tab at hm
   simp only [newL, List.nil_append] at hm
   by_cases e : m = lab
   ·subst e
    left
    rw [look_cons_eq] at hm
    rw [if_pos rfl]; exact hm
   ·right
    rw [look_cons_ne (fun q => e q.symm)] at hm
    exact ⟨if_neg e, hm⟩
  ·split at hm
   ·cases hm; exact ⟨[], rfl, trivial⟩
   ·cases hm
  ·split at hm
   ·cases hm; cases hq
   ·cases hm
  ·split at hm
   ·cases hm; cases ho2
   ·cases hm
  ·split at hm
   ·rename_i e
    subst e
    cases hm
    refine ⟨_, _, hs2, ⟨?_, fun q hq => hL.2 q ?_⟩, by rw [htl, List.length_take]; omega, fun i u d hu hd => ?_⟩
    ·rcases hL.1 with ⟨⟨ad', h1⟩, rfl⟩ | ⟨b, o', c', h1, h2, h3, h4⟩
     ·injection h1 with h5 h6 h7
      subst h5 h7
      have : h.toNat = 0 := by omega
      rw [this]
      exact .inl ⟨⟨_, rfl⟩, by simp⟩
     ·injection h1 with h5 h6 h7
      subst h5 h7
      refine .inr ⟨b, o', c, by rw [htl], h2, by omega, fun j u hj => h4 j u ?_⟩
      rw [List.getElem?_take] at hj
      split at hj
      ·exact hj
      ·cases hj
    ·cases c with
     | zero => simp [roBlk] at hq
     | succ c => cases ad <;> simp [roBlk, Value.ownBlock] at hq ⊢; exact hq
    ·rw [List.getElem?_take] at hu hd
     split at hu
     ·rename_i hlt
      rw [if_pos hlt] at hd
      exact hfr i u d hu hd
     ·cases hu
   ·cases hm
end Pairs
end Go.Proofs.YtjomfjihopegmaaGreatDoor.Sx
end
section
open Go
namespace Go.Proofs.YtjomfjihopegmaaGreatDoor.Sx
def Val.top (V : Val) (F : Nat) : Prop := ∀ l, F ≤ l → V.β l = none ∧ V.σ l = none
def SumOK (P : Program) (Γ : Env) (f : FuncId) (S : Sum) : Prop :=
 ∀ vs T lab F e, S vs T lab F = some e → (∀ q ∈ e.obl, q) → ∀ (w0 : World) (M : Nat → Prop) (V : Val) (T2 : Tab) (w : World) (xs : List Value),
   (∀ l B, T l = some B → T2 l = some B) → TabOK w0 M V T2 w → GlobOK Γ V → V.fresh lab → V.top F → denL V vs = some xs →
   ∀ (o : Oper) (a : Act) K Q, (∀ V' x w', V.ext lab V' → den V' e.val = some x → TabOK w0 M V' (upd T2 lab e) w' → K (a.put o.dst x) w') →
     o.upon P a K Q ((callFunc f xs.toArray).run P w)
def SumDOK (P : Program) (Γ : Env) (f : FuncId) (S : Sum) : Prop :=
 ∀ vs T lab F e, S vs T lab F = some e → (∀ q ∈ e.obl, q) → ∀ (w0 : World) (M : Nat → Prop) (V : Val) (T2 : Tab) (w : World) (xs : List Value),
   (∀ l B, T l = some B → T2 l = some B) → TabOK w0 M V T2 w → GlobOK Γ V → V.fresh lab → V.top F → denL V vs = some xs →
   ∀ (fn : Func) (tmps : Array Value) (ds : List Deferred) (R : Ending → World → Prop), (∀ V' w', V.ext lab V' → TabOK w0 M V' (upd T2 lab e) w' → Leaves P fn tmps R ds .returning w') →
     ∀ as cs : Array Value, as.toList ++ cs.toList = xs → Leaves P fn tmps R ({ target := .fn (.func f) cs, args := as } :: ds) .returning w
def SumsOK (P : Program) (Γ : Env) : Prop := (∀ f S, Γ.sum f = some S → SumOK P Γ f S) ∧ (∀ f S, Γ.dsum f = some S → SumDOK P Γ f S) ∧
 (∀ t, Γ.cmp.elem t = true → (∀ i, P.info? t = some i → i.comparable = true) ∧ P.stoodInHeld t = false) ∧ ∃ d, P.depth = d + 2
def orE (a b : Option Eff) : Option Eff := match a with
 | some e => some e
 | none => b
def beqKind (a b : IntKind) : Bool := decide (a = b)
def wholeB : SB → Bool
 | .own .. | .ints .. | .vals .. | .row .. => true
 | _ => false
def eqIs : List SV → List SV → Option (Bool × Bool)
 | [], [] => some (true, true)
 | .int s k a :: xs, .int s' k' b :: ys => match beqKind k k', eqIs xs ys with
   | true, some (l, r) => some (s && (s' && l), (a == b) && r)
   | _, _ => none
 | _, _ => none
def eqBool (op : BinOp) (s b : Bool) : Option Eff := match op with
 | .eql => some { val := .bool s b }
 | .neq => some { val := .bool s (!b) }
 | _ => none
def txtB (T : Tab) (l o : Nat) : Option ByteArray := match T l, o with
 | some (.roc (.raw (.string s) :: _)), 0 => some s
 | _, _ => none
def neS : List UInt8 → List UInt8 → Bool
 | [], [] => false
 | x :: r, y :: q => match Nat.beq x.toNat y.toNat with
   | true => neS r q
   | false => true
 | _, _ => true
theorem neS_ok : ∀ {s q : List UInt8}, neS s q = true → s ≠ q
 | [], [], h, _ => by simp [neS] at h
 | [], y :: q, _, e => by cases e
 | x :: r, [], _, e => by cases e
 | x :: r, y :: q, h, e => by
   cases e
   simp only [neS, Nat.beq_refl] at h
   exact neS_ok h rfl
def eSame (Γ : Env) (g : Nat → Option SV) (T : Tab) (op : BinOp) (t : TypeId) (x y : Operand) : Option Eff :=
 match ev Γ g x, ev Γ g y with
 | some (.ptr l _ o), some (.ptr l' _ o') => match Γ.ty t with
   | some ti => match ti.desc with
     | .pointer el => match Γ.ty el with
       | some te => match Nat.beq l l' with
         | true => match Nat.beq o o' with
           | true => eqlB op true
           | false => match Nat.beq te.size 0 with
             | true => none
             | false => eqlB op false
         | false => match Nat.beq te.size 0, T l, T l' with
           | false, some B, some B' => match wholeB B && wholeB B' with
             | true => eqlB op false
             | false => none
           | _, _, _ => none
       | none => none
     | _ => none
   | none => none
 | some (.ifc t1 (.ptr l _ o)), some (.ifc t2 (.ptr l' _ o')) => match Γ.ty t, Γ.ty t1 with
   | some ti, some t1i => match ti.desc, t1i.desc with
     | .interface _, .pointer el => match Γ.ty el with
       | some te => match Nat.beq t1 t2 && (Nat.beq l l' && (Nat.beq o o' && Γ.cmp.elem t1)) with
         | true => eqlB op true
         | false => match Nat.beq t1 t2 && (Γ.cmp.elem t1 && !Nat.beq te.size 0), txtB T l o, txtB T l' o' with
           | true, some s, some s' => match neS s.data.toList s'.data.toList with
             | true => eqlB op false
             | false => none
           | _, _, _ => none
       | none => none
     | _, _ => none
   | _, _ => none
 | some (.agg xs), some (.agg ys) => match Γ.ty t with
   | some ti => match ti.desc with
     | .array n el => match Γ.ty el with
       | some te => match te.desc, Nat.beq te.size 1 && Nat.beq xs.length n, eqIs xs ys with
         | .int _, true, some (l, r) => eqBool op l r
         | _, _, _ => none
       | none => none
     | _ => none
   | none => none
 | _, _ => none
def eSameB (op : BinOp) (n : Nat) (xs ys : List Int) : Option Eff := match op with
 | .eql => some { obl := [xs.length = n ∧ ys.length = n], val := .bool false (decide (xs = ys)) }
 | .neq => some { obl := [xs.length = n ∧ ys.length = n], val := .bool false (!decide (xs = ys)) }
 | _ => none
def eSameA (Γ : Env) (g : Nat → Option SV) (op : BinOp) (t : TypeId) (x y : Operand) : Option Eff :=
 match (ev Γ g x).bind intsOf, (ev Γ g y).bind intsOf, Γ.ty t with
 | some (k, xs), some (k2, ys), some ti => match ti.desc with
   | .array n el => match Γ.ty el with
     | some te => match te.desc, Nat.beq te.size 1, beqK' k k2 with
       | .int _, true, true => eSameB op n xs ys
       | _, _, _ => none
     | none => none
   | _ => none
 | _, _, _ => none
def eSameP (Γ : Env) (g : Nat → Option SV) (op : BinOp) (t : TypeId) (x y : Operand) : Option Eff :=
 match ev Γ g x, ev Γ g y, Γ.ty t with
 | some (.agg [.int _ k1 a, .int _ k2 b]), some (.agg [.int _ k3 c, .int _ k4 d]), some ti => match ti.desc with
   | .struct fs => match fs.toList with
     | [f1, f2] => match Γ.ty f1.type, Γ.ty f2.type with
       | some t1, some t2 => match t1.desc, t2.desc, ((!(f1.name == "_") && !(f2.name == "_")) && (Nat.beq f1.offset 0 && Nat.beq f2.offset 1)) && ((beqK' k1 k3 && beqK' k2 k4) && Γ.cmp.elem t) with
         | .int _, .int _, true => match op with
           | .eql => some { val := .bool false (decide (a = c) && decide (b = d)) }
           | .neq => some { val := .bool false (!(decide (a = c) && decide (b = d))) }
           | _ => none
         | _, _, _ => none
       | _, _ => none
     | _ => none
   | _ => none
 | _, _, _ => none
def eMakeP (Γ : Env) (g : Nat → Option SV) (t : TypeId) (x y : Operand) (lab : Nat) : Option Eff :=
 match ev Γ g x, ev Γ g y, Γ.ty t with
 | some (.int true _ 0), some (.int _ _ c), some ti => match ti.desc with
   | .slice el => match Γ.ty el with
     | some te => match Nat.beq te.size 2 && Nat.beq te.zero.length 2 with
       | true => some { obl := [0 ≤ c ∧ (te.bytes : Int) * c ≤ 2 ^ 48 ∧ c < 2 ^ 63], val := .buf lab, new := [.rowp [] el] }
       | false => none
     | none => none
   | _ => none
 | _, _, _ => none
def eMakeN (Γ : Env) (g : Nat → Option SV) (t : TypeId) (x y : Operand) (lab : Nat) : Option Eff :=
 match ev Γ g x, ev Γ g y, Γ.ty t with
 | some (.int _ _ n), some (.int _ _ c), some ti => match ti.desc with
   | .slice el => match Γ.ty el with
     | some te => match te.zero, Nat.beq te.size 1 with
       | [.raw (.slice none 0 0)], true => some { obl := [0 ≤ n ∧ n ≤ c ∧ (te.bytes : Int) * c ≤ 2 ^ 48 ∧ c < 2 ^ 63], val := .slc lab false 0 n.toNat c.toNat, new := [.vals (List.replicate c.toNat (.slice none 0 0)) el] }
       | _, _ => none
     | none => none
   | _ => none
 | _, _, _ => none
def eSameN (Γ : Env) (g : Nat → Option SV) (T : Tab) (op : BinOp) (t : TypeId) (x y : Operand) : Option Eff :=
 match ev Γ g x, ev Γ g y, Γ.ty t, op with
 | some (.rse l i _), some (.raw (.slice none 0 0)), some ti, .eql => match ti.desc, T l with
   | .slice _, some (.rolz ds _) => some { obl := [ds.length ≤ i], val := .bool true true }
   | _, _ => none
 | _, _, _, _ => none
section Spliced
variable {P : Program} {Γ : Env} {V : Val} {w w0 : World} {M : Nat → Prop} {T : Tab} {g : Nat → Option SV} {a : Act} {o : Oper} {e : Eff}
def eAppJ (T : Tab) (te : TI) (x y : SV) : Option Eff :=
 match x, intD te.desc, Nat.beq te.size 1 with
 | .slc l true 0 len cap, some k, true => match T l with
   | some (.ints k2 xs ty) => match beqK' k k2, seqI T k y with
     | true, some (ob, ys) => some { obl := (cap = xs.length ∧ len + ys.length ≤ cap) :: ob, val := .slc l true 0 (len + ys.length) cap, wr := [(l, .ints k (xs.take len ++ ys ++ xs.drop (len + ys.length)) ty)] }
     | _, _ => none
   | _ => none
 | _, _, _ => none
theorem eAppJ_ok (hty : TyOK P Γ) {T' : Tab} (hsub : ∀ l B, T' l = some B → T l = some B) (hT : TabOK w0 M V T w) {lab : Nat} {t ty el : TypeId} {te : TI} (ht : P.underlying t = some (.slice el)) (hte : Γ.ty el = some te)
  {x y : SV} {u v : Value} (hx : den V x = some u) (hy : den V y = some v) (he : eAppJ T' te x y = some e) (ho : ∀ q ∈ e.obl, q) : SimV P w0 M V T lab e (Builtin.append_ #[t, t] ty #[u, v]) w := by
 unfold eAppJ at he
 split at he
 case h_2 => cases he
 rename_i l len cap k hk hsz
 split at he
 case h_2 => cases he
 rename_i k2 xs ety hB
 split at he
 case h_2 => cases he
 rename_i ob ys hkk hq
 simp only [Option.some.injEq] at he
 subst he
 have hkk : k = k2 := of_decide_eq_true hkk
 subst hkk
 obtain ⟨hcap, hle⟩ := ho _ List.mem_cons_self
 obtain ⟨_, i, z, hi, hisz, hiby, hz, hzero⟩ := hty el te hte
 have hs1 : i.size = 1 := by rw [hisz]; exact Nat.eq_of_beq_eq_true hsz
 have hh := seqI_ok (hT.sub hsub) hy hq (fun q hq => ho q (List.mem_cons_of_mem _ hq))
 simp only [den, Option.map_eq_some_iff] at hx
 obtain ⟨p, hβ, rfl⟩ := hx
 obtain ⟨w', hr, hT'⟩ := wrInts_ok (P := P) (xs := ys) (off := len) lab (.slc l true 0 (len + ys.length) cap) ((cap = xs.length ∧ len + ys.length ≤ cap) :: ob) hT (hsub l _ hB) (b := p.1) (o := p.2) hβ (by omega)
 have hadd : (⟨p.1, p.2, none⟩ : Addr).add len = ⟨p.1, p.2 + len, none⟩ := by cases len <;> simp [Addr.add]
 refine ⟨V, .slice (some ⟨p.1, p.2 + 0, none⟩) (len + ys.length) cap, w', ?_, V.ext_refl lab, by simp [den, hβ], hT'⟩
 rcases hh with ⟨rfl, hys⟩ | ⟨ad, c, rfl, hcells⟩
 ·have : ys = [] := by simpa using hys
  subst this
  have hf := run_firstCells_none (P := P) (w := w) 1 0 0 0
  have hle' : len ≤ cap := by simpa using hle
  simp at hr
  simp [Builtin.append_, run_underlying ht, Builtin.lenOf, run_sizeOf hi, hs1, hf, hle', hadd, hr]
 ·have hf := run_firstCells_some (P := P) (w := w) 1 ys.length ad ys.length c (ys.map (Value.int k)) (by simp) hcells
  simp [Builtin.append_, run_underlying ht, Builtin.lenOf, run_sizeOf hi, hs1, hf, hle, hadd, hr]
def eCopyI (T : Tab) (te : TI) (x y : SV) : Option Eff :=
 match x, intD te.desc, Nat.beq te.size 1 with
 | .slc l false off len _, some k, true => match T l with
   | some (.ints k2 xs ty) => match beqK' k k2, seqI T k y with
     | true, some (ob, ys) => some { obl := (ys.length ≤ len ∧ off + ys.length ≤ xs.length) :: ob, val := .int false .i64 ys.length, wr := [(l, .ints k (xs.take off ++ ys ++ xs.drop (off + ys.length)) ty)] }
     | _, _ => none
   | _ => none
 | _, _, _ => none
theorem eCopyI_ok (hty : TyOK P Γ) {T' : Tab} (hsub : ∀ l B, T' l = some B → T l = some B) (hT : TabOK w0 M V T w) {lab : Nat} {dT sT ty el : TypeId} {te : TI} (ht : P.underlying dT = some (.slice el)) (hte : Γ.ty el = some te)
  {x y : SV} {u v : Value} (hx : den V x = some u) (hy : den V y = some v) (he : eCopyI T' te x y = some e) (ho : ∀ q ∈ e.obl, q) : SimV P w0 M V T lab e (Builtin.copy_ #[dT, sT] ty #[u, v]) w := by
 unfold eCopyI at he
 split at he
 case h_2 => cases he
 rename_i l off len cap k hk hsz
 split at he
 case h_2 => cases he
 rename_i k2 xs ety hB
 split at he
 case h_2 => cases he
 rename_i ob ys hkk hq
 simp only [Option.some.injEq] at he
 subst he
 have hkk : k = k2 := of_decide_eq_true hkk
 subst hkk
 obtain ⟨hle, hle2⟩ := ho _ List.mem_cons_self
 obtain ⟨_, i, z, hi, hisz, hiby, hz, hzero⟩ := hty el te hte
 have hs1 : i.size = 1 := by rw [hisz]; exact Nat.eq_of_beq_eq_true hsz
 have hh := seqI_ok (hT.sub hsub) hy hq (fun q hq => ho q (List.mem_cons_of_mem _ hq))
 simp only [den, Option.map_eq_some_iff] at hx
 obtain ⟨p, hβ, rfl⟩ := hx
 obtain ⟨w', hr, hT'⟩ := wrInts_ok (P := P) (xs := ys) (off := off) lab (.int false .i64 ys.length) ((ys.length ≤ len ∧ off + ys.length ≤ xs.length) :: ob) hT (hsub l _ hB) (b := p.1) (o := p.2) hβ hle2
 refine ⟨V, .int .i64 ys.length, w', ?_, V.ext_refl lab, rfl, hT'⟩
 rcases hh with ⟨rfl, hys⟩ | ⟨ad, c, rfl, hcells⟩
 ·have : ys = [] := by simpa using hys
  subst this
  have hf := run_firstCells_none (P := P) (w := w) 1 0 0 0
  simp at hr
  simp [Builtin.copy_, run_underlying ht, Builtin.lenOf, run_sizeOf hi, hs1, hf, hr, goInt]
 ·have hmin : ys.length.min len = ys.length := Nat.min_eq_left hle
  have hf := run_firstCells_some (P := P) (w := w) 1 ys.length ad ys.length c (ys.map (Value.int k)) (by simp) hcells
  simp [Builtin.copy_, run_underlying ht, Builtin.lenOf, run_sizeOf hi, hs1, hf, hr, goInt, hmin]
def eClearI (T : Tab) (te : TI) (x : SV) : Option Eff :=
 match x, te.zero, Nat.beq te.size 1 with
 | .slc l false off len _, [.int _ k z], true => match T l with
   | some (.ints k2 xs ty) => match beqK' k k2 with
     | true => some { obl := [off + len ≤ xs.length], val := .tup [], wr := [(l, .ints k (xs.take off ++ List.replicate len z ++ xs.drop (off + len)) ty)] }
     | _ => none
   | _ => none
 | _, _, _ => none
theorem eClearI_ok (hty : TyOK P Γ) {T' : Tab} (hsub : ∀ l B, T' l = some B → T l = some B) (hT : TabOK w0 M V T w) {lab : Nat} {t ty el : TypeId} {te : TI} (ht : P.underlying t = some (.slice el)) (hte : Γ.ty el = some te)
  {x : SV} {u : Value} (hx : den V x = some u) (he : eClearI T' te x = some e) (ho : ∀ q ∈ e.obl, q) : SimV P w0 M V T lab e (Builtin.clear_ #[t] ty #[u]) w := by
 unfold eClearI at he
 split at he
 case h_2 => cases he
 rename_i l off len cap sz k z hzz hsz
 split at he
 case h_2 => cases he
 rename_i k2 xs ety hB
 split at he
 case h_2 => cases he
 rename_i hkk
 simp only [Option.some.injEq] at he
 subst he
 have hkk : k = k2 := of_decide_eq_true hkk
 subst hkk
 have hle := ho _ List.mem_cons_self
 obtain ⟨_, i, zv, hi, hisz, hiby, hz, hzero⟩ := hty el te hte
 have hzc : zv.cells = #[.int k z] := by
  have := hzero V
  rw [hzz] at this
  simp only [denL, den, Option.bind_some, Option.map_some, Option.some.injEq] at this
  rw [← Array.toList_inj, ← this]
 simp only [den, Option.map_eq_some_iff] at hx
 obtain ⟨p, hβ, rfl⟩ := hx
 obtain ⟨w', hr, hT'⟩ := wrInts_ok (P := P) (xs := List.replicate len z) (off := off) lab (.tup []) [off + len ≤ xs.length] hT (hsub l _ hB) (b := p.1) (o := p.2) hβ (by simpa using hle)
 rw [List.length_replicate] at hT'
 cases len with
 | zero =>
   refine ⟨V, .tuple #[], w', ?_, V.ext_refl lab, by simp [den, denL], hT'⟩
   simp only [List.replicate_zero, List.map_nil, storeCells, Sem.run_pure, Result.ok.injEq, true_and] at hr
   subst hr
   simp [Builtin.clear_, run_underlying ht]
 | succ n =>
   refine ⟨V, .tuple #[], w', ?_, V.ext_refl lab, by simp [den, denL], hT'⟩
   have hzl : (Builtin.zeroCells zv.cells (n + 1)).toList = (List.replicate (n + 1) z).map (Value.int k) := by
    rw [hzc, zeroCells_one]
    simp
   rw [← hzl] at hr
   simp [Builtin.clear_, run_underlying ht, run_zeroValue hi hz, hr]
def hdK (k : IntKind) : List SV → List Int × List SV
 | .int s k' n :: r => match beqK' k k' with
   | true => ((n :: (hdK k r).1), (hdK k r).2)
   | false => ([], .int s k' n :: r)
 | r => ([], r)
def spK (k : IntKind) : List SV → List SV × List Int × List SV
 | [] => ([], [], [])
 | v :: r => match (hdK k (v :: r)).1 with
   | [] => (v :: (spK k r).1, (spK k r).2.1, (spK k r).2.2)
   | n :: ns => ([], n :: ns, (hdK k (v :: r)).2)
theorem hdK_ok {V : Val} {k : IntKind} : ∀ {cs : List SV} {xs : List Value}, denL V cs = some xs → ∃ qs, denL V (hdK k cs).2 = some qs ∧ xs = (hdK k cs).1.map (Value.int k) ++ qs
 | [], xs, h => ⟨xs, h, rfl⟩
 | v :: r, xs, h => by
   unfold hdK
   split
   ·rename_i s k' n r' e
    cases e
    split
    ·rename_i hk
     have hk : k = k' := of_decide_eq_true hk
     subst hk
     simp only [denL, den, Option.bind_some, Option.map_eq_some_iff] at h
     obtain ⟨ys, hy, rfl⟩ := h
     obtain ⟨qs, h1, h2⟩ := hdK_ok (k := k) hy
     exact ⟨qs, h1, by rw [h2]; rfl⟩
    ·exact ⟨xs, h, rfl⟩
   ·exact ⟨xs, h, rfl⟩
theorem spK_ok {V : Val} {k : IntKind} : ∀ {cs : List SV} {xs : List Value}, denL V cs = some xs → ∃ ps qs, denL V (spK k cs).1 = some ps ∧ denL V (spK k cs).2.2 = some qs ∧ xs = ps ++ ((spK k cs).2.1.map (Value.int k) ++ qs)
 | [], xs, h => by simp only [denL, Option.some.injEq] at h; subst h; exact ⟨[], [], rfl, rfl, rfl⟩
 | v :: r, xs, h => by
   unfold spK
   split
   ·simp only [denL, Option.map_eq_some_iff, Option.bind_eq_some_iff] at h
    obtain ⟨x, hx, ys, hy, rfl⟩ := h
    obtain ⟨ps, qs, h1, h2, h3⟩ := spK_ok (k := k) hy
    exact ⟨x :: ps, qs, by simp [denL, hx, h1], h2, by rw [h3]; rfl⟩
   ·rename_i n ns e
    obtain ⟨qs, h1, h2⟩ := hdK_ok (k := k) h
    rw [e] at h2
    exact ⟨[], qs, rfl, h1, h2⟩
def wrRun (k : IntKind) (cs : List SV) (ty : TypeId) (off : Nat) (ys : List Int) : Prop × SB := match spK k cs with
 | (pre, ns, post) => ((pre.length ≤ off ∧ off + ys.length ≤ pre.length + ns.length), match pre, post with
   | [], [] => .ints k (ns.take off ++ ys ++ ns.drop (off + ys.length)) ty
   | pre, post => .own (pre ++ (intsV k ns.length (ns.take (off - pre.length) ++ ys ++ ns.drop (off - pre.length + ys.length)) ++ post)) ty)
theorem wrRun_ok {k : IntKind} {cells : List SV} {ty : TypeId} {l off b o : Nat} {ys : List Int} (lab : Nat) (rv : SV) (ob : List Prop)
  (hT : TabOK w0 M V T w) (hl : T l = some (.own cells ty)) (hβ : V.β l = some (b, o)) (hle : (wrRun k cells ty off ys).1) :
  ∃ w', (storeCells ⟨b, o + off, none⟩ (ys.map (Value.int k))).run P w = .ok () w' ∧ TabOK w0 M V (upd T lab { obl := ob, val := rv, wr := [(l, (wrRun k cells ty off ys).2)] }) w' := by
 obtain ⟨cs, hc, b', hb, hh⟩ := hT.ok l _ hl
 rw [hβ] at hb; cases hb
 obtain ⟨ps, qs, h1, h2, h3⟩ := spK_ok (V := V) (k := k) (show denL V cells = some cs from hc)
 unfold wrRun at hle ⊢
 generalize spK k cells = sp at *
 obtain ⟨pre, ns, post⟩ := sp
 simp only at hle h1 h2 h3 ⊢
 obtain ⟨ha, hb2⟩ := hle
 have hpl := denL_length h1
 have hcl : cs.length = pre.length + (ns.length + post.length) := by rw [h3]; simp [hpl, denL_length h2]
 refine ⟨_, run_storeCells_at P b (0 + off) ty _ 0 _ w hh (by simp; omega) (by intro x hx; simp only [List.mem_map] at hx; obtain ⟨y, _, rfl⟩ := hx; rfl), ?_⟩
 obtain ⟨zs, hzs⟩ : ∃ zs, zs = ns.take (off - pre.length) ++ ys ++ ns.drop (off - pre.length + ys.length) := ⟨_, rfl⟩
 have hzl : zs.length = ns.length := by rw [hzs]; simp; omega
 have key : ps ++ (zs.map (Value.int k) ++ qs) = cs.take off ++ ys.map (Value.int k) ++ cs.drop (off + (ys.map (Value.int k)).length) := by
  rw [h3, hzs]
  obtain ⟨d, rfl⟩ : ∃ d, off = pre.length + d := ⟨off - pre.length, by omega⟩
  have e1 : (ps ++ (ns.map (Value.int k) ++ qs)).take (pre.length + d) = ps ++ (ns.map (Value.int k)).take d := by
   rw [← hpl, List.take_length_add_append, List.take_append_of_le_length (by simp; omega)]
  have e2 : (ps ++ (ns.map (Value.int k) ++ qs)).drop (pre.length + d + (ys.map (Value.int k)).length) = (ns.map (Value.int k)).drop (d + ys.length) ++ qs := by
   rw [← hpl, List.length_map, Nat.add_assoc, List.drop_length_add_append, List.drop_append_of_le_length (by simp; omega)]
  rw [e1, e2, Nat.add_sub_cancel_left]
  simp [List.map_take, List.map_drop]
 split
 ·have e0 : ps = [] := by cases ps with | nil => rfl | cons => simp at hpl
  have e1 : qs = [] := by have := denL_length h2; cases qs with | nil => rfl | cons => simp at this
  subst e0 e1
  simp only [List.length_nil, Nat.sub_zero] at hzs
  rw [← hzs]
  have := hT.write (B0 := .own cells ty) (B := .ints k zs ty) hl hβ rfl (by simp [SB.blk, hβ]) hh (cs := cs.take off ++ ys.map (Value.int k) ++ cs.drop (off + (ys.map (Value.int k)).length)) (by rw [← key]; simp [SB.cells]) (.inr (.inl rfl)) lab rv ob
  simpa using this
 ·rw [← hzs]
  have hc2 : denL V (pre ++ (intsV k ns.length zs ++ post)) = some (ps ++ (zs.map (Value.int k) ++ qs)) := denL_append h1 (denL_append (intsV_ok hzl) h2)
  rw [key] at hc2
  have := hT.write (B0 := .own cells ty) (B := .own (pre ++ (intsV k ns.length zs ++ post)) ty) hl hβ rfl (by simp [SB.blk, hβ]) hh hc2 (.inl rfl) lab rv ob
  simpa using this
def eCopyM (T : Tab) (te : TI) (x y : SV) : Option Eff :=
 match x, intD te.desc, Nat.beq te.size 1 with
 | .slc l _ off len _, some k, true => match seqI T k y with
   | some (ob, ys) => match T l with
     | some (.own cs ty) => some { obl := (wrRun k cs ty off (ys.take (Nat.min ys.length len))).1 :: ob, val := .int false .i64 ((Nat.min ys.length len : Nat) : Int), wr := [(l, (wrRun k cs ty off (ys.take (Nat.min ys.length len))).2)] }
     | some (.ints k2 xs ty) => match beqK' k k2 with
       | true => some { obl := (off + Nat.min ys.length len ≤ xs.length) :: ob, val := .int false .i64 ((Nat.min ys.length len : Nat) : Int), wr := [(l, .ints k (xs.take off ++ ys.take (Nat.min ys.length len) ++ xs.drop (off + Nat.min ys.length len)) ty)] }
       | false => none
     | _ => none
   | none => none
 | _, _, _ => none
theorem eCopyM_ok (hty : TyOK P Γ) {T' : Tab} (hsub : ∀ l B, T' l = some B → T l = some B) (hT : TabOK w0 M V T w) {lab : Nat} {dT sT ty el : TypeId} {te : TI} (ht : P.underlying dT = some (.slice el)) (hte : Γ.ty el = some te)
  {x y : SV} {u v : Value} (hx : den V x = some u) (hy : den V y = some v) (he : eCopyM T' te x y = some e) (ho : ∀ q ∈ e.obl, q) : SimV P w0 M V T lab e (Builtin.copy_ #[dT, sT] ty #[u, v]) w := by
 unfold eCopyM at he
 split at he
 case h_2 => cases he
 rename_i l s off len cap k hk hsz
 split at he
 case h_2 => cases he
 rename_i ob ys hq
 obtain ⟨_, i, z, hi, hisz, hiby, hz, hzero⟩ := hty el te hte
 have hs1 : i.size = 1 := by rw [hisz]; exact Nat.eq_of_beq_eq_true hsz
 simp only [den, Option.map_eq_some_iff] at hx
 obtain ⟨p, hβ, rfl⟩ := hx
 have fin : ∀ (B : SB) (q : Prop), (∃ w', (storeCells ⟨p.1, p.2 + off, none⟩ ((ys.take (Nat.min ys.length len)).map (Value.int k))).run P w = .ok () w' ∧ TabOK w0 M V (upd T lab { obl := q :: ob, val := .int false .i64 ((Nat.min ys.length len : Nat) : Int), wr := [(l, B)] }) w') →
   Holds w v (ys.map (Value.int k)) → SimV P w0 M V T lab { obl := q :: ob, val := .int false .i64 ((Nat.min ys.length len : Nat) : Int), wr := [(l, B)] } (Builtin.copy_ #[dT, sT] ty #[.slice (some ⟨p.1, p.2 + off, none⟩) len cap, v]) w := by
  rintro B q ⟨w', hr, hT'⟩ hh
  refine ⟨V, .int .i64 ((Nat.min ys.length len : Nat) : Int), w', ?_, V.ext_refl lab, rfl, hT'⟩
  rcases hh with ⟨rfl, hys⟩ | ⟨ad, c, rfl, hcells⟩
  ·have : ys = [] := by simpa using hys
   subst this
   have hf := run_firstCells_none (P := P) (w := w) 1 0 0 0
   simp at hr
   simp [Builtin.copy_, run_underlying ht, Builtin.lenOf, run_sizeOf hi, hs1, hf, hr, goInt]
  ·have hf := run_firstCells_some (P := P) (w := w) 1 (Nat.min ys.length len) ad ys.length c ((ys.take (Nat.min ys.length len)).map (Value.int k))
    (by rw [List.length_map, List.length_take, Nat.mul_one]; exact Nat.min_eq_left (Nat.min_le_left _ _))
    (fun j q hj => by
     rw [List.map_take, List.getElem?_take] at hj
     split at hj
     ·exact hcells j q hj
     ·cases hj)
   have e1 : (ys.map (Value.int k)).length = ys.length := by simp
   rw [e1]
   simp [Builtin.copy_, run_underlying ht, Builtin.lenOf, run_sizeOf hi, hs1, goInt] at hf hr ⊢
   simp [hf, hr]
 split at he
 ·rename_i cs ety hB
  simp only [Option.some.injEq] at he
  subst he
  exact fin _ _ (wrRun_ok lab _ _ hT (hsub l _ hB) hβ (ho _ List.mem_cons_self)) (seqI_ok (hT.sub hsub) hy hq (fun q hq => ho q (List.mem_cons_of_mem _ hq)))
 ·rename_i k2 xs ety hB
  split at he
  case h_2 => cases he
  rename_i hkk
  simp only [Option.some.injEq] at he
  subst he
  have hkk : k = k2 := of_decide_eq_true hkk
  subst hkk
  have hle : off + Nat.min ys.length len ≤ xs.length := ho _ List.mem_cons_self
  have hl1 : (ys.take (Nat.min ys.length len)).length = Nat.min ys.length len := by rw [List.length_take]; exact Nat.min_eq_left (Nat.min_le_left _ _)
  have := wrInts_ok (P := P) (xs := ys.take (Nat.min ys.length len)) (off := off) lab (.int false .i64 ((Nat.min ys.length len : Nat) : Int)) ((off + Nat.min ys.length len ≤ xs.length) :: ob) hT (hsub l _ hB) (b := p.1) (o := p.2) hβ (by omega)
  rw [hl1] at this
  exact fin _ _ this (seqI_ok (hT.sub hsub) hy hq (fun q hq => ho q (List.mem_cons_of_mem _ hq)))
 ·cases he
def eClearM (T : Tab) (te : TI) (x : SV) : Option Eff :=
 match x, te.zero, Nat.beq te.size 1 with
 | .slc l _ off len _, [.int _ k z], true => match T l with
   | some (.own cs ty) => some { obl := [(wrRun k cs ty off (List.replicate len z)).1], val := .tup [], wr := [(l, (wrRun k cs ty off (List.replicate len z)).2)] }
   | _ => none
 | _, _, _ => none
theorem eClearM_ok (hty : TyOK P Γ) {T' : Tab} (hsub : ∀ l B, T' l = some B → T l = some B) (hT : TabOK w0 M V T w) {lab : Nat} {t ty el : TypeId} {te : TI} (ht : P.underlying t = some (.slice el)) (hte : Γ.ty el = some te)
  {x : SV} {u : Value} (hx : den V x = some u) (he : eClearM T' te x = some e) (ho : ∀ q ∈ e.obl, q) : SimV P w0 M V T lab e (Builtin.clear_ #[t] ty #[u]) w := by
 unfold eClearM at he
 split at he
 case h_2 => cases he
 rename_i l s off len cap sz k z hzz hsz
 split at he
 case h_2 => cases he
 rename_i cs ety hB
 simp only [Option.some.injEq] at he
 subst he
 obtain ⟨_, i, zv, hi, hisz, hiby, hz, hzero⟩ := hty el te hte
 have hzc : zv.cells = #[.int k z] := by
  have := hzero V
  rw [hzz] at this
  simp only [denL, den, Option.bind_some, Option.map_some, Option.some.injEq] at this
  rw [← Array.toList_inj, ← this]
 simp only [den, Option.map_eq_some_iff] at hx
 obtain ⟨p, hβ, rfl⟩ := hx
 obtain ⟨w', hr, hT'⟩ := wrRun_ok (P := P) (ys := List.replicate len z) (k := k) (off := off) lab (.tup []) [(wrRun k cs ety off (List.replicate len z)).1] hT (hsub l _ hB) (b := p.1) (o := p.2) hβ (ho _ (by simp))
 cases len with
 | zero =>
   refine ⟨V, .tuple #[], w', ?_, V.ext_refl lab, by simp [den, denL], hT'⟩
   simp only [List.replicate_zero, List.map_nil, storeCells, Sem.run_pure, Result.ok.injEq, true_and] at hr
   subst hr
   simp [Builtin.clear_, run_underlying ht]
 | succ n =>
   refine ⟨V, .tuple #[], w', ?_, V.ext_refl lab, by simp [den, denL], hT'⟩
   have hzl : (Builtin.zeroCells zv.cells (n + 1)).toList = (List.replicate (n + 1) z).map (Value.int k) := by
    rw [hzc, zeroCells_one]
    simp
   rw [← hzl] at hr
   simp [Builtin.clear_, run_underlying ht, run_zeroValue hi hz, hr]
end Spliced
def eBuiltin (Γ : Env) (T : Tab) (lab : Nat) (b : Builtin) (ts : List TypeId) (vs : List SV) : Option Eff :=
 match b, ts, vs with
 | .len, t :: _, [v] => match Γ.ty t with
   | some ti => eLen Γ T ti.desc v
   | none => none
 | .cap, t :: _, [v] => match Γ.ty t with
   | some ti => match ti.desc with
     | .slice _ => eCap v
     | _ => none
   | none => none
 | .append, [t, t2], [x, y] => match Nat.beq t t2, y with
   | false, .int .. => match Γ.ty t, Γ.ty t2 with
     | some ti, some ti2 => match ti.desc with
       | .slice el => match Γ.ty el with
         | some te => eAppMake ti2.desc te el lab x y
         | none => none
       | _ => none
     | _, _ => none
   | _, _ => match Γ.ty t, Nat.beq t t2 with
     | some ti, true => match ti.desc with
       | .slice el => match Γ.ty el with
         | some te => orE (eAppP T te el lab x y) (orE (eAppL T te el lab x y) (orE (eAppE T te el lab x y) (orE (eAppJ T te x y) (orE (eAppX T te el lab x y) (orE (eAppC T te el lab x y) (eAppI T te el lab x y))))))
         | none => none
       | _ => none
     | _, _ => none
 | .copy, [t, _], [x, y] => match Γ.ty t with
   | some ti => match ti.desc with
     | .slice el => match Γ.ty el with
       | some te => orE (eCopyI T te x y) (orE (eCopyC T te.size x y) (eCopyM T te x y))
       | none => none
     | _ => none
   | none => none
 | .clear, [t], [x] => match Γ.ty t with
   | some ti => match ti.desc with
     | .slice el => match Γ.ty el with
       | some te => orE (eClearI T te x) (orE (eClearC T te x) (eClearM T te x))
       | none => none
     | _ => none
   | none => none
 | _, _, _ => none
def eCall (Γ : Env) (g : Nat → Option SV) (T : Tab) (lab F : Nat) (c : Call) : Option Eff :=
 match evL Γ g c.args.toList with
 | none => none
 | some vs => match c.callee with
   | .builtin b => eBuiltin Γ T lab b c.argTypes.toList vs
   | .value f => match ev Γ g f with
     | some (.fn (.func id) first capt) => match Γ.sum id with
       | some S => S (first ++ vs ++ capt) T lab F
       | none => none
     | _ => none
   | .invoke _ _ => none
section OpsB
variable {P : Program} {Γ : Env} {V : Val} {w w0 : World} {M : Nat → Prop} {T : Tab} {g : Nat → Option SV} {a : Act} {o : Oper} {e : Eff}
def eConvB (Γ : Env) (g : Nat → Option SV) (T : Tab) (src dst : TypeId) (x : Operand) : Option Eff :=
 match ev Γ g x, Γ.ty src with
 | some (.slc l s off len cap), some ts => match ts.desc with
   | .slice el => match Γ.ty el, T l with
     | some te, some (.own cs _) => match te.desc, Nat.beq src dst, intsK .u8 cs with
       | .int .u8, true, some ns => some { val := .slc l s off len cap, wr := [(l, .roi .u8 ns)] }
       | _, _, _ => none
     | _, _ => none
   | _ => none
 | _, _ => none
theorem eConvB_ok (hty : TyOK P Γ) (ht : TmpOK V g a) (hg : GlobOK Γ V) {T' : Tab} (hsub : ∀ l B, T' l = some B → T l = some B) (hT : TabOK w0 M V T w) {src dst : TypeId} {x : Operand} (hop : o.op = .convert src dst x)
  (he : eConvB Γ g T' src dst x = some e) (lab : Nat) : Sim P w0 M V T lab e o a w := by
 unfold eConvB at he
 split at he
 case h_2 => cases he
 rename_i l s off len cap ts hx hts
 split at he
 case h_2 => cases he
 rename_i el hd
 split at he
 case h_2 => cases he
 rename_i te cs ty hte hB
 split at he
 case h_2 => cases he
 rename_i ns hu8 hsd hns
 have hsd := Nat.eq_of_beq_eq_true hsd
 subst hsd
 simp only [Option.some.injEq] at he
 subst he
 have ex := ev_ok ht hg hx
 simp only [den, Option.map_eq_some_iff] at ex
 obtain ⟨⟨b, base⟩, hβ, ex⟩ := ex
 have hu := (hty src ts hts).1
 rw [hd] at hu
 have hue := (hty el te hte).1
 rw [hu8] at hue
 obtain ⟨us, hc, b', hb, hh⟩ := hT.ok l _ (hsub l _ hB)
 rw [hβ] at hb; cases hb
 have hus : us = ns.map (Value.int .u8) := by
  have h1 := intsK_ok (V := V) hns
  rw [show denL V cs = some us from hc] at h1
  exact Option.some.inj h1
 have hlt : b < w.heap.size := (Array.getElem?_eq_some_iff.1 hh).1
 have hfr : ∃ w', w' = w.freeze ⟨b, us.length, none⟩ 1 := ⟨_, rfl⟩
 obtain ⟨w', hw'⟩ := hfr
 have hheap : w'.heap[b]? = some (.cells us.toArray ty (us.length, us.length + 1)) := by
  rw [hw']
  simp [World.freeze, Array.getElem?_modify, hh]
 have hoth : ∀ n, n ≠ b → w'.heap[n]? = w.heap[n]? := fun n hn => by
  rw [hw']
  simp only [World.freeze]
  rw [if_neg (by decide : ¬ (1 : Nat) = 0)]
  simp only [Array.getElem?_modify]
  rw [if_neg (fun q : b = n => hn q.symm)]
 have hsz : w'.heap.size = w.heap.size := by rw [hw']; simp [World.freeze]
 have hrun : (execOp a.eval o).run P w = .ok (.value (a.eval x)) w' := by
  have hsh : w.shape? b = some (ty, us.length) := by simp [World.shape?, hh]
  unfold execOp
  simp [hop, ← ex, convert, run_underlying hu, run_underlying hue, markStringish, hsh, hw']
 intro K Q hK
 unfold Oper.wp
 rw [hrun, Oper.upon_value]
 refine hK V _ w' (V.ext_refl lab) (by rw [← ex]; simp [den, hβ]) ?_
 refine hT.change (B0 := .own cs ty) (B := .roi .u8 ns) (b := b) (hsub l _ hB) rfl (by simp [SB.blk, hβ]) ⟨us, by rw [hus]; rfl, b, 0, hβ, ⟨by omega, fun s hs => ?_⟩, fun j v hj => ?_⟩ (by simp [SB.blk, hβ]) (by omega) (fun n _ hne => hoth n hne) (by rw [hw']; simp [World.freeze]) (by rw [hw']; simp [World.freeze]) (by rw [hw']; simp [World.freeze]) lab _ []
 ·rw [hus] at hs
  simp at hs
 ·simp [World.cell?, hheap, hj]
def eIndexB (Γ : Env) (g : Nat → Option SV) (T : Tab) (t : TypeId) (x y : Operand) : Option Eff :=
 match ev Γ g x, ev Γ g y, Γ.ty t with
 | some (.buf l), some (.int _ _ k), some ti => match ti.desc, T l with
   | .slice el, some (.rowi _ xs _) => match Γ.ty el with
     | some te => match Nat.beq te.size 1 with
       | true => some { obl := [0 ≤ k ∧ k < xs.length], val := .bptr l k.toNat }
       | false => none
     | none => none
   | _, _ => none
 | _, _, _ => none
theorem eIndexB_ok (hty : TyOK P Γ) (ht : TmpOK V g a) (hg : GlobOK Γ V) {T' : Tab} (hsub : ∀ l B, T' l = some B → T l = some B) (hT : TabOK w0 M V T w) {t : TypeId} {x y : Operand} (hop : o.op = .indexAddr t x y)
  (he : eIndexB Γ g T' t x y = some e) (ho : ∀ q ∈ e.obl, q) (lab : Nat) : Sim P w0 M V T lab e o a w := by
 unfold eIndexB at he
 split at he
 case h_2 => cases he
 rename_i l sk kk k ti hx hy hti
 split at he
 case h_2 => cases he
 rename_i el k2 xs ty hd hB
 split at he
 case h_2 => cases he
 rename_i te hte
 split at he
 case h_2 => cases he
 rename_i hs1
 have hs1 := Nat.eq_of_beq_eq_true hs1
 simp only [Option.some.injEq] at he
 subst he
 have hb : 0 ≤ k ∧ k < xs.length := ho _ (by simp)
 have ex := ev_ok ht hg hx
 have ey := ev_ok ht hg hy
 simp only [den, Option.some.injEq] at ex ey
 obtain ⟨us, hc, v, hσ, hrow⟩ := hT.ok l _ (hsub l _ hB)
 rw [hσ] at ex
 cases ex
 rcases hrow.2 with ⟨hv, h0⟩ | ⟨b, cap, cur, hv, _⟩
 ·omega
 obtain ⟨_, i, z, hi, hisz, _⟩ := hty el te hte
 have hu := (hty t ti hti).1
 rw [hd] at hu
 refine sim_pure (x := .pointer (some ⟨b, 0 + k.toNat * te.size, none⟩)) ?_ (by simp [den, hσ, hv, add_addr, hs1]) rfl rfl hT
 unfold execOp
 simp only [hop, hv, ← ey, Instr.indexAt, asIntOf, Sem.run_bind, Sem.run_pure, run_underlying hu w, Result.andThen_ok, if_pos hb, run_sizeOf hi, hisz, add_addr]
def eStoreB (Γ : Env) (g : Nat → Option SV) (T : Tab) (t : TypeId) (x y : Operand) : Option Eff :=
 match ev Γ g x, ev Γ g y, Γ.ty t with
 | some (.bptr l off), some (.int _ k n), some ti => match T l, Nat.beq ti.size 1 with
   | some (.rowi k2 xs ty), true => match decide (k2 = k) with
     | true => some { obl := [off < xs.length], val := .raw undef, wr := [(l, .rowi k (xs.set off n) ty)] }
     | false => none
   | _, _ => none
 | _, _, _ => none
theorem eStoreB_ok (hty : TyOK P Γ) (ht : TmpOK V g a) (hg : GlobOK Γ V) {T' : Tab} (hsub : ∀ l B, T' l = some B → T l = some B) (hT : TabOK w0 M V T w) {t : TypeId} {x y : Operand} (hop : o.op = .store t x y)
  (he : eStoreB Γ g T' t x y = some e) (ho : ∀ q ∈ e.obl, q) (lab : Nat) : Sim P w0 M V T lab e o a w := by
 unfold eStoreB at he
 split at he
 case h_2 => cases he
 rename_i l off sk k n ti hx hy hti
 split at he
 case h_2 => cases he
 rename_i k2 xs ty hB hs1
 split at he
 case h_2 => cases he
 rename_i hk
 have hk := of_decide_eq_true hk
 subst hk
 have hs1 := Nat.eq_of_beq_eq_true hs1
 simp only [Option.some.injEq] at he
 subst he
 have hb : off < xs.length := ho _ (by simp)
 have ex := ev_ok ht hg hx
 have ey := ev_ok ht hg hy
 simp only [den, Option.some.injEq] at ey
 obtain ⟨hu, i, z, hi, hisz, _⟩ := hty t ti hti
 obtain ⟨us, hc, v, hσ, hrow⟩ := hT.ok l _ (hsub l _ hB)
 have hc' : us = xs.map (Value.int k2) := (Option.some.inj hc).symm
 subst hc'
 rcases hrow.2 with ⟨hv, h0⟩ | ⟨b, cap, cur, hv, _, hh, hle, hcap, hcs, htake⟩
 ·omega
 subst hv
 simp only [den, hσ, Option.some.injEq] at ex
 have hst := (World.ownsRow.stored hrow off (.int k2 n))
 obtain ⟨hst1, hst2⟩ := hst
 have hlt : off < cur.size := by omega
 have hrun : (execOp a.eval o).run P w = .ok .skip (w.setCell ⟨b, off, none⟩ (.int k2 n)) := by
  have hcell : w.cell? ⟨b, off, none⟩ = some cur[off] := by simp [World.cell?, hh, hlt]
  have hfz : w.frozen? ⟨b, off, none⟩ = false := World.ownsRow.frozenAt hrow off
  have hstore : (store (⟨b, off, none⟩ : Addr) (.int k2 n)).run P w = .ok () (w.setCell ⟨b, off, none⟩ (.int k2 n)) := by
   rw [run_store P w _ _ _ rfl, hcell]
   simp [hfz]
  have hz1 : i.size = 1 := by omega
  unfold execOp
  simp [hop, ← ex, ← ey, Instr.storeAt, Instr.sureAddr, storeVar, run_sizeOf hi, hz1, Value.cells, storeCells, add_addr, hstore]
 intro K Q hK
 unfold Oper.wp
 rw [hrun, Oper.upon_skip]
 refine hK V undef _ (V.ext_refl lab) rfl ?_
 refine hT.change (B0 := .rowi k2 xs ty) (B := .rowi k2 (xs.set off n) ty) (b := b) (hsub l _ hB) rfl (by simp [SB.blk, hσ, Value.ownBlock]) ⟨_, rfl, _, hσ, ?_⟩ (by simp [SB.blk, hσ, Value.ownBlock]) hst2.size (fun m hm hne => hst2.block m hm (fun q => hne (Option.some.inj q))) hst2.os hst2.tape hst2.output lab _ _
 rw [List.length_set, List.map_set]
 exact hst1
end OpsB
def opEff (Γ : Env) (g : Nat → Option SV) (T : Tab) (lab F : Nat) (h : Option Bool) (o : Oper) : Option Eff :=
 match o.op with
 | .move x => eMove Γ g x
 | .assign x => eMove Γ g x
 | .pick c x y => ePick Γ g c x y
 | .alloc t => eAlloc Γ t lab
 | .box t x => orE (eBox Γ g T t x lab) (eBoxA Γ g t x lab)
 | .build t ps => eBuild Γ g T t ps
 | .buildSlice t n ps => eBuildSlice Γ g T t n ps lab
 | .load t x => orE (eLoadA Γ g T t x) (orE (eLoad Γ g T t x) (orE (eLoadL Γ g T t x) (eLoadP Γ g T t x)))
 | .store t x y => orE (eStore Γ g T t x y) (orE (eStoreA Γ g T t x y) (orE (eStoreS Γ g T t x y) (eStoreB Γ g T t x y)))
 | .nilCheck x => eNil Γ g x
 | .binOp op t x y _ => match op with
   | .eql => orE (eBin Γ g h .eql t x y) (orE (eSame Γ g T .eql t x y) (orE (eSameA Γ g .eql t x y) (orE (eSameP Γ g .eql t x y) (eSameN Γ g T .eql t x y))))
   | .neq => orE (eBin Γ g h .neq t x y) (orE (eSame Γ g T .neq t x y) (orE (eSameA Γ g .neq t x y) (orE (eSameP Γ g .neq t x y) (eSameN Γ g T .neq t x y))))
   | _ => eBin Γ g h op t x y
 | .unOp op _ x => eUn Γ g op x
 | .convert s d x => orE (eConv Γ g s d x) (eConvB Γ g T s d x)
 | .sliceToArrayPointer t x => eArr Γ g t x
 | .makeInterface t x => eMakeIface Γ g t x
 | .makeFunc f xs cs => eMakeFunc Γ g f xs cs
 | .makeSlice t x y => orE (eMakeSlice Γ g t x y lab) (orE (eMakeP Γ g t x y lab) (eMakeN Γ g t x y lab))
 | .slice t x lo hi mx => orE (eSlice0 Γ g T t x lo hi mx) (orE (eSlice Γ g T t x lo hi mx) (orE (eSliceR Γ g T t x lo hi mx lab) (orE (eSliceF Γ g T t x lo hi mx lab) (orE (eSliceP Γ g T t x lo hi mx lab) (orE (eSliceW Γ g T t x lo hi mx lab) (eSliceQ Γ g T t x lo hi mx lab))))))
 | .fieldAddr t x n => eField Γ g t x n
 | .field t x n => eFieldV Γ g t x n
 | .indexAddr t x y => orE (eIndexAddr Γ g t x y) (orE (eIndexB Γ g T t x y) (orE (eIndexL Γ g t x y) (eIndexP Γ g t x y)))
 | .index t x y => orE (eIndexV Γ g t x y) (eIndexA Γ g t x y)
 | .extract x i => eExtract Γ g x i
 | .call c => eCall Γ g T lab F c
 | _ => none
theorem beq_false' {a b : Nat} (h : Nat.beq a b = false) : a ≠ b := fun e => by subst e; rw [Nat.beq_refl] at h; cases h
section Ops
variable {P : Program} {Γ : Env} {V : Val} {w w0 : World} {M : Nat → Prop} {T : Tab} {g : Nat → Option SV} {a : Act} {o : Oper} {e : Eff}
theorem evL_list {xs : Array Operand} {vs : List SV} (ht : TmpOK V g a) (hg : GlobOK Γ V) (h : evL Γ g xs.toList = some vs) : denL V vs = some (xs.map a.eval).toList := by
 rw [Array.toList_map]; exact evL_ok ht hg h
theorem denL_one {v : SV} {xs : List Value} (h : denL V [v] = some xs) : ∃ x, xs = [x] ∧ den V v = some x := by
 simp only [denL, Option.map_eq_some_iff, Option.bind_eq_some_iff] at h
 obtain ⟨x, hx, ys, hy, rfl⟩ := h
 simp only [Option.some.injEq] at hy
 subst hy
 exact ⟨x, rfl, hx⟩
theorem denL_two {u v : SV} {xs : List Value} (h : denL V [u, v] = some xs) : ∃ x y, xs = [x, y] ∧ den V u = some x ∧ den V v = some y := by
 simp only [denL, Option.map_eq_some_iff, Option.bind_eq_some_iff] at h
 obtain ⟨x, hx, ys, ⟨y, hy, zs, hz, rfl⟩, rfl⟩ := h
 simp only [Option.some.injEq] at hz
 subst hz
 exact ⟨x, y, rfl, hx, hy⟩
def bRun (b : Builtin) (ats : Array TypeId) (ty : TypeId) (xs : Array Value) : Sem Value := match b with
 | .len => Builtin.len_ ats ty xs
 | .cap => Builtin.cap_ ats ty xs
 | .append => Builtin.append_ ats ty xs
 | .copy => Builtin.copy_ ats ty xs
 | .clear => Builtin.clear_ ats ty xs
 | _ => stuck ""
theorem eBuiltin_ok (hty : TyOK P Γ) {T' : Tab} (hsub : ∀ l B, T' l = some B → T l = some B) (hT : TabOK w0 M V T w) {lab : Nat} (hf : V.fresh lab) {b : Builtin} {ats : Array TypeId} {ty : TypeId} {vs : List SV} {xs : Array Value}
  (hv : denL V vs = some xs.toList) (he : eBuiltin Γ T' lab b ats.toList vs = some e) (ho : ∀ q ∈ e.obl, q) :
  SimV P w0 M V T lab e (bRun b ats ty xs) w := by
 obtain ⟨ts, hts⟩ : ∃ ts, ats.toList = ts := ⟨_, rfl⟩
 rw [hts] at he
 unfold eBuiltin at he
 split at he
 ·rename_i t r v
  split at he
  case h_2 => cases he
  rename_i ti hti
  obtain ⟨x, hx, hd⟩ := denL_one hv
  have hxs : xs = #[x] := by apply Array.ext'; simpa using hx
  subst hxs
  have hat : ats[0]? = some t := by rw [← Array.getElem?_toList, hts]; rfl
  exact simV_pure (eLen_ok (ty := ty) hty hsub hT hat (hty t ti hti).1 hd he) hT
 ·rename_i t r v
  split at he
  case h_2 => cases he
  rename_i ti hti
  split at he
  case h_2 => cases he
  rename_i el hdd
  obtain ⟨x, hx, hd⟩ := denL_one hv
  have hxs : xs = #[x] := by apply Array.ext'; simpa using hx
  subst hxs
  have hat : ats[0]? = some t := by rw [← Array.getElem?_toList, hts]; rfl
  have hu := (hty t ti hti).1
  rw [hdd] at hu
  exact simV_pure (eCap_ok (ty := ty) hat hu hd he) hT
 ·rename_i t t2 x y
  split at he
  ·rename_i s k n htt
   split at he
   case h_2 => cases he
   rename_i ti ti2 hti hti2
   split at he
   case h_2 => cases he
   rename_i el hdd
   split at he
   case h_2 => cases he
   rename_i te hte
   obtain ⟨p, q, hx, hp, hq⟩ := denL_two hv
   have hxs : xs = #[p, q] := by apply Array.ext'; simpa using hx
   subst hxs
   have hats : ats = #[t, t2] := by apply Array.ext'; simpa using hts
   subst hats
   have hu := (hty t ti hti).1
   rw [hdd] at hu
   exact eAppMake_ok (ty := ty) hty hT hf hu (hty t2 ti2 hti2).1 hte hp hq he ho
  ·split at he
   case h_2 => cases he
   rename_i ti hti htt
   have := Nat.eq_of_beq_eq_true htt
   subst this
   split at he
   case h_2 => cases he
   rename_i el hdd
   split at he
   case h_2 => cases he
   rename_i te hte
   obtain ⟨p, q, hx, hp, hq⟩ := denL_two hv
   have hxs : xs = #[p, q] := by apply Array.ext'; simpa using hx
   subst hxs
   have hats : ats = #[t, t] := by apply Array.ext'; simpa using hts
   subst hats
   have hu := (hty t ti hti).1
   rw [hdd] at hu
   unfold orE at he
   split at he
   ·rename_i e' he'
    cases he
    exact eAppP_ok (ty := ty) hty hsub hT hf hu hte hp hq he' ho
   split at he
   ·rename_i e' he'
    cases he
    exact eAppL_ok (ty := ty) hty hsub hT hf hu hte hp hq he' ho
   split at he
   ·rename_i e' he'
    cases he
    exact eAppE_ok (ty := ty) hty hsub hT hf hu hte hp hq he' ho
   ·split at he
    ·rename_i e' he'
     cases he
     exact eAppJ_ok (ty := ty) hty hsub hT hu hte hp hq he' ho
    ·split at he
     ·rename_i e' he'
      cases he
      exact eAppX_ok (ty := ty) hty hsub hT hf hu hte hp hq he' ho
     ·split at he
      ·rename_i e' he'
       cases he
       exact eAppC_ok (ty := ty) hty hsub hT hf hu hte hp hq he'
      ·exact eAppI_ok (ty := ty) hty hsub hT hf hu hte hp hq he ho
 ·rename_i t t2 x y
  split at he
  case h_2 => cases he
  rename_i ti hti
  split at he
  case h_2 => cases he
  rename_i el hdd
  split at he
  case h_2 => cases he
  rename_i te hte
  obtain ⟨p, q, hx, hp, hq⟩ := denL_two hv
  have hxs : xs = #[p, q] := by apply Array.ext'; simpa using hx
  subst hxs
  have hats : ats = #[t, t2] := by apply Array.ext'; simpa using hts
  subst hats
  have hu := (hty t ti hti).1
  rw [hdd] at hu
  unfold orE at he
  split at he
  ·rename_i e' he'
   cases he
   exact eCopyI_ok (ty := ty) hty hsub hT hu hte hp hq he' ho
  ·split at he
   ·rename_i e' he'
    cases he
    exact eCopyC_ok (ty := ty) hty hsub hT hu hte hp hq he'
   ·exact eCopyM_ok (ty := ty) hty hsub hT hu hte hp hq he ho
 ·rename_i t x
  split at he
  case h_2 => cases he
  rename_i ti hti
  split at he
  case h_2 => cases he
  rename_i el hdd
  split at he
  case h_2 => cases he
  rename_i te hte
  obtain ⟨p, hx, hp⟩ := denL_one hv
  have hxs : xs = #[p] := by apply Array.ext'; simpa using hx
  subst hxs
  have hats : ats = #[t] := by apply Array.ext'; simpa using hts
  subst hats
  have hu := (hty t ti hti).1
  rw [hdd] at hu
  unfold orE at he
  split at he
  ·rename_i e' he'
   cases he
   exact eClearI_ok (ty := ty) hty hsub hT hu hte hp he' ho
  ·split at he
   ·rename_i e' he'
    cases he
    exact eClearC_ok (ty := ty) hty hsub hT hu hte hp he'
   ·exact eClearM_ok (ty := ty) hty hsub hT hu hte hp he ho
 ·cases he
theorem sim_of_simV {lab : Nat} {s : Sem Value} (h : SimV P w0 M V T lab e s w) (hr : execOp a.eval o = (do pure (.value (← s)))) : Sim P w0 M V T lab e o a w := by
 obtain ⟨V', x, w', h1, h2, h3, h4⟩ := h
 intro K Q hK
 unfold Oper.wp
 rw [hr]
 simp only [Sem.run_bind, h1, Result.andThen_ok, Sem.run_pure, Oper.upon_value]
 exact hK V' x w' h2 h3 h4
theorem eCall_ok (hty : TyOK P Γ) (hsum : SumsOK P Γ) (ht : TmpOK V g a) (hg : GlobOK Γ V) {T' : Tab} (hsub : ∀ l B, T' l = some B → T l = some B) (hT : TabOK w0 M V T w) {lab F : Nat} (hf : V.fresh lab) (hF : V.top F) {c : Call} (hop : o.op = .call c)
  (he : eCall Γ g T' lab F c = some e) (ho : ∀ q ∈ e.obl, q) : Sim P w0 M V T lab e o a w := by
 unfold eCall at he
 split at he
 case h_1 => cases he
 rename_i vs hvs
 have hd := evL_list ht hg hvs
 split at he
 ·rename_i b hb
  have hs := eBuiltin_ok (P := P) (ty := o.type) hty hsub hT hf hd he ho
  refine sim_of_simV hs ?_
  unfold execOp
  simp only [hop, resolve, hb]
  unfold eBuiltin at he
  split at he <;> first | (cases he; done) | rfl
 ·rename_i f hb
  split at he
  case h_2 => cases he
  rename_i id first capt hfv
  split at he
  case h_2 => cases he
  rename_i S hS
  have ef := ev_ok ht hg hfv
  simp only [den, Option.bind_eq_some_iff, Option.map_eq_some_iff] at ef
  obtain ⟨xf, hxf, xc, hxc, ef⟩ := ef
  intro K Q hK
  have hall := denL_append (denL_append hxf hd) hxc
  have := hsum.1 id S hS _ _ _ _ _ he ho w0 M V T w _ hsub hT hg hf hF hall o a K Q hK
  unfold Oper.wp
  have hrun : (execOp a.eval o).run P w = (callFunc id ((xf ++ (c.args.map a.eval).toList ++ xc).toArray)).run P w := by
   unfold execOp
   simp only [hop, resolve, hb, ← ef, Deferred.ofValue, invoke]
   have : (xf ++ (c.args.map a.eval).toList ++ xc).toArray = xf.toArray ++ c.args.map a.eval ++ xc.toArray := by
    apply Array.ext'; simp
   rw [this]
   rfl
  rw [hrun]
  exact this
 ·cases he
theorem wholeB_ok {l : Nat} {B : SB} {p : Nat × Nat} (h : wholeB B = true) (hβ : V.β l = some p) (hok : okB V w l B) : B.owned = true ∧ B.blk V l = some p.1 ∧ p.2 = 0 ∧ ∃ cs ty, w.heap[p.1]? = some (.cells cs ty (0, 0)) := by
 obtain ⟨cs, _, h2⟩ := hok
 cases B with
 | own cells ty => obtain ⟨b, hb, hh⟩ := h2; rw [hβ] at hb; cases hb; exact ⟨rfl, by simp [SB.blk, hβ], rfl, _, _, hh⟩
 | ints k xs ty => obtain ⟨b, hb, hh⟩ := h2; rw [hβ] at hb; cases hb; exact ⟨rfl, by simp [SB.blk, hβ], rfl, _, _, hh⟩
 | vals vs ty => obtain ⟨b, hb, hh⟩ := h2; rw [hβ] at hb; cases hb; exact ⟨rfl, by simp [SB.blk, hβ], rfl, _, _, hh⟩
 | row sz cells ty => obtain ⟨b, _, _, hb, _, hh, _⟩ := h2; rw [hβ] at hb; cases hb; exact ⟨rfl, by simp [SB.blk, hβ], rfl, _, _, hh⟩
 | _ => cases h
theorem run_eqItems_ints (d : Nat) {e : TypeId} {k0 : IntKind} (he : P.underlying e = some (.int k0)) (as bs : Array Value) :
  ∀ (xs ys : List SV) (j : Nat) (l r : Bool), eqIs xs ys = some (l, r) → denL V xs = some (as.toList.drop j) → denL V ys = some (bs.toList.drop j) → (Op.eqItems (d + 1) e 1 as bs (List.range' j xs.length)).run P w = .ok r w
 | [], [], j, l, r, h, _, _ => by
   simp only [eqIs, Option.some.injEq, Prod.mk.injEq] at h
   obtain ⟨rfl, rfl⟩ := h
   simp [Op.eqItems]
 | .int s k a :: xs, y :: ys, j, l, r, h, hx, hy => by
   cases y <;> simp only [eqIs] at h <;> first | (cases h; done) | skip
   rename_i s' k' b
   split at h
   case h_2 => cases h
   rename_i l' r' hk hr
   have := of_decide_eq_true hk
   subst this
   simp only [Option.some.injEq, Prod.mk.injEq] at h
   obtain ⟨rfl, rfl⟩ := h
   simp only [denL, den, Option.bind_some, Option.map_eq_some_iff] at hx hy
   obtain ⟨as', hxs, hxa⟩ := hx
   obtain ⟨bs', hys, hyb⟩ := hy
   have ga : as[j]? = some (.int k a) := by
    have : (as.toList.drop j)[0]? = some (.int k a) := by rw [← hxa]; rfl
    simpa using this
   have gb : bs[j]? = some (.int k b) := by
    have : (bs.toList.drop j)[0]? = some (.int k b) := by rw [← hyb]; rfl
    simpa using this
   have da : as' = as.toList.drop (j + 1) := by
    have := congrArg (List.drop 1) hxa
    simpa using this
   have db : bs' = bs.toList.drop (j + 1) := by
    have := congrArg (List.drop 1) hyb
    simpa using this
   have hagg : aggD (.int k0) = false := rfl
   have ih := run_eqItems_ints d he as bs xs ys (j + 1) l' r' hr (da ▸ hxs) (db ▸ hys)
   have pa : (part e as (j * 1)).run P w = .ok (.int k a) w := by
    simp only [Nat.mul_one, part, Sem.run_bind, run_isAgg he, hagg, Result.andThen_ok, Bool.false_eq_true, if_false, ga, Sem.run_pure]
   have pb : (part e bs (j * 1)).run P w = .ok (.int k b) w := by
    simp only [Nat.mul_one, part, Sem.run_bind, run_isAgg he, hagg, Result.andThen_ok, Bool.false_eq_true, if_false, gb, Sem.run_pure]
   simp only [List.length_cons, List.range'_succ, Op.eqItems, Sem.run_bind, pa, pb, Result.andThen_ok, run_equalIn_int w d e k k0 a b he]
   cases hab : (a == b) with
   | true => simp [ih]
   | false => simp
 | [], _ :: _, _, _, _, h, _, _ => by simp [eqIs] at h
 | x :: _, [], _, _, _, h, _, _ => by cases x <;> simp [eqIs] at h
 | .bool .. :: _, _ :: _, _, _, _, h, _, _ => by simp [eqIs] at h
 | .ptr .. :: _, _ :: _, _, _, _, h, _, _ => by simp [eqIs] at h
 | .slc .. :: _, _ :: _, _, _, _, h, _, _ => by simp [eqIs] at h
 | .agg .. :: _, _ :: _, _, _, _, h, _, _ => by simp [eqIs] at h
 | .tup .. :: _, _ :: _, _, _, _, h, _, _ => by simp [eqIs] at h
 | .fn .. :: _, _ :: _, _, _, _, h, _, _ => by simp [eqIs] at h
 | .ifc .. :: _, _ :: _, _, _, _, h, _, _ => by simp [eqIs] at h
 | .raw .. :: _, _ :: _, _, _, _, h, _, _ => by simp [eqIs] at h
 | .buf .. :: _, _ :: _, _, _, _, h, _, _ => by simp [eqIs] at h
 | .bptr .. :: _, _ :: _, _, _, _, h, _, _ => by simp [eqIs] at h
 | .bslc .. :: _, _ :: _, _, _, _, h, _, _ => by simp [eqIs] at h
 | .ros .. :: _, _ :: _, _, _, _, h, _, _ => by simp [eqIs] at h
 | .ai .. :: _, _ :: _, _, _, _, h, _, _ => by simp [eqIs] at h
 | .slcR .. :: _, _ :: _, _, _, _, h, _, _ => by simp [eqIs] at h
theorem eSame_ok (hty : TyOK P Γ) (hsum : SumsOK P Γ) (ht : TmpOK V g a) (hg : GlobOK Γ V) {T' : Tab} (hsub : ∀ l B, T' l = some B → T l = some B) (hT : TabOK w0 M V T w) {op : BinOp} {t t2 : TypeId} {x y : Operand} (hop : o.op = .binOp op t x y t2)
  (he : eSame Γ g T' op t x y = some e) (lab : Nat) : Sim P w0 M V T lab e o a w := by
 have fin : ∀ {u v : Value} {b : Bool}, a.eval x = u → a.eval y = v → (Op.equal t u v).run P w = .ok b w → (binOp .eql t u v = (do pure (.bool (← Op.equal t u v))) ∧ binOp .neq t u v = (do pure (.bool (!(← Op.equal t u v))))) →
   ¬ (u = .nilIface ∧ v = .nilIface) → (∀ cs, u ≠ .agg cs) → eqlB op b = some e → Sim P w0 M V T lab e o a w := by
  intro u v b hu hv hr hb hn1 hn2 he
  have hg0 := run_eqGuard_other (P := P) w op t x y u v hn1 hn2
  have hx : ∃ z, ((do eqGuard op t x y u v; binOp op t u v) : Sem Value).run P w = .ok z w ∧ den V e.val = some z ∧ e.new = [] ∧ e.wr = [] := by
   cases op <;> simp only [eqlB] at he <;> first | (cases he; done) | skip
   ·simp only [lit, Option.some.injEq] at he; subst he
    exact ⟨.bool b, by rw [Sem.run_bind, hg0, Result.andThen_ok, hb.1, Sem.run_bind, hr]; rfl, rfl, rfl, rfl⟩
   ·simp only [lit, Option.some.injEq] at he; subst he
    exact ⟨.bool (!b), by rw [Sem.run_bind, hg0, Result.andThen_ok, hb.2, Sem.run_bind, hr]; rfl, rfl, rfl, rfl⟩
  obtain ⟨z, h1, h2, h3, h4⟩ := hx
  refine sim_pure (x := z) ?_ h2 h3 h4 hT
  unfold execOp
  simp only [hop, hu, hv]
  rw [Sem.run_bind, h1]
  rfl
 unfold eSame at he
 split at he
 ·rename_i l s1 off l' s2 off' hx hy
  have ex := ev_ok ht hg hx
  have ey := ev_ok ht hg hy
  simp only [den, Option.map_eq_some_iff] at ex ey
  obtain ⟨p, hp, ex⟩ := ex
  obtain ⟨q, hq, ey⟩ := ey
  split at he
  case h_2 => cases he
  rename_i ti hti
  split at he
  case h_2 => cases he
  rename_i el hd
  split at he
  case h_2 => cases he
  rename_i te hte
  have hu := (hty t ti hti).1
  rw [hd] at hu
  obtain ⟨_, i, z, hi, hsz, _⟩ := hty el te hte
  have heqn : ∀ (n0 : Nat) (b : Bool), (i.size ≠ 0 → (sameAddr ⟨p.1, p.2 + off, none⟩ ⟨q.1, q.2 + off', none⟩).run P w = .ok b w) → (i.size = 0 → ((⟨p.1, p.2 + off, none⟩ : Addr) == ⟨q.1, q.2 + off', none⟩) = true ∧ b = true) →
    (Op.equalIn (n0 + 1) t (.pointer (some ⟨p.1, p.2 + off, none⟩)) (.pointer (some ⟨q.1, q.2 + off', none⟩))).run P w = .ok b w := by
   intro n0 b h1 h2
   simp only [Op.equalIn, Sem.run_bind, run_underlying hu w, Result.andThen_ok, run_sizeOf hi]
   by_cases h0 : i.size = 0
   ·rw [if_neg (by simp [h0])]
    obtain ⟨h3, rfl⟩ := h2 h0
    rw [if_pos h3]; rfl
   ·rw [if_pos (by simpa using h0)]
    exact h1 h0
  have heq : ∀ (b : Bool), (i.size ≠ 0 → (sameAddr ⟨p.1, p.2 + off, none⟩ ⟨q.1, q.2 + off', none⟩).run P w = .ok b w) → (i.size = 0 → ((⟨p.1, p.2 + off, none⟩ : Addr) == ⟨q.1, q.2 + off', none⟩) = true ∧ b = true) →
    (Op.equal t (.pointer (some ⟨p.1, p.2 + off, none⟩)) (.pointer (some ⟨q.1, q.2 + off', none⟩))).run P w = .ok b w := fun b => heqn 9999 b
  split at he
  ·rename_i hll
   have := Nat.eq_of_beq_eq_true hll
   subst this
   rw [hp] at hq; cases hq
   split at he
   ·rename_i hoo
    have := Nat.eq_of_beq_eq_true hoo
    subst this
    exact fin ex.symm ey.symm (heq true (fun _ => run_sameAddr_same w _) (fun _ => ⟨by simp, rfl⟩)) ⟨rfl, rfl⟩ (by simp) (by simp) he
   ·rename_i hoo
    have hne := beq_false' hoo
    split at he
    ·cases he
    ·rename_i hz
     have hz := beq_false' hz
     refine fin ex.symm ey.symm (heq false (fun _ => ?_) (fun h => absurd (hsz ▸ h) hz)) ⟨rfl, rfl⟩ (by simp) (by simp) he
     simp [sameAddr]
  ·rename_i hll
   have hne := beq_false' hll
   split at he
   case h_2 => cases he
   rename_i B B' hz hB hB'
   have hz := beq_false' hz
   split at he
   case h_2 => cases he
   rename_i hw
   simp only [Bool.and_eq_true] at hw
   obtain ⟨o1, b1, z1, cs1, ty1, h1⟩ := wholeB_ok hw.1 hp (hT.ok l B (hsub l B hB))
   obtain ⟨o2, b2, z2, cs2, ty2, h2⟩ := wholeB_ok hw.2 hq (hT.ok l' B' (hsub l' B' hB'))
   have hbl : p.1 ≠ q.1 := fun e => hT.dist l B l' B' p.1 hne (hsub l B hB) (hsub l' B' hB') o1 b1 (e ▸ b2)
   refine fin ex.symm ey.symm (heq false (fun _ => ?_) (fun h => absurd (hsz ▸ h) hz)) ⟨rfl, rfl⟩ (by simp) (by simp) he
   exact run_sameAddr_other w (by simp) h1 h2
 ·rename_i t1 l s1 off t2' l' s2 off' hx hy
  have ex := ev_ok ht hg hx
  have ey := ev_ok ht hg hy
  simp only [den, Option.map_eq_some_iff] at ex ey
  obtain ⟨_, ⟨p, hp, rfl⟩, ex⟩ := ex
  obtain ⟨_, ⟨q, hq, rfl⟩, ey⟩ := ey
  split at he
  case h_2 => cases he
  rename_i ti t1i hti ht1
  split at he
  case h_2 => cases he
  rename_i ms el hd hd1
  split at he
  case h_2 => cases he
  rename_i te hte
  have hu := (hty t ti hti).1
  rw [hd] at hu
  obtain ⟨hu1, i1, z1, hi1, _⟩ := hty t1 t1i ht1
  rw [hd1] at hu1
  obtain ⟨_, i2, z2, hi2, hsz2, _⟩ := hty el te hte
  split at he
  ·rename_i hc
   simp only [Bool.and_eq_true] at hc
   obtain ⟨c1, c2, c3, c4⟩ := hc
   have := Nat.eq_of_beq_eq_true c1
   subst this
   have := Nat.eq_of_beq_eq_true c2
   subst this
   have := Nat.eq_of_beq_eq_true c3
   subst this
   rw [hp] at hq; cases hq
   have hcmp := (hsum.2.2.1 t1 c4).1 i1 hi1
   exact fin ex.symm ey.symm (run_equalIn_iface_ptr_same w 9998 _ hu hu1 hi1 hcmp hi2) ⟨rfl, rfl⟩ (by simp) (by simp) he
  ·split at he
   case h_2 => cases he
   rename_i s s' hc hs hs'
   split at he
   case h_2 => cases he
   rename_i hne
   simp only [Bool.and_eq_true, Bool.not_eq_true'] at hc
   obtain ⟨c1, c4, c5⟩ := hc
   have := Nat.eq_of_beq_eq_true c1
   subst this
   have hcmp := (hsum.2.2.1 t1 c4).1 i1 hi1
   have look : ∀ {l o : Nat} {s : ByteArray} {p : Nat × Nat}, txtB T' l o = some s → V.β l = some p → o = 0 ∧ blk00 w p.1 ∧ w.cell? ⟨p.1, p.2, none⟩ = some (.string s) := by
    intro l o s p h hp
    unfold txtB at h
    split at h
    case h_2 => cases h
    rename_i s0 r hB
    cases h
    obtain ⟨cs, hcs, b, o, hb, h0, hh⟩ := hT.ok l _ (hsub l _ hB)
    rw [hp] at hb; cases hb
    simp only [SB.cells, denL, den, Option.bind_eq_some_iff, Option.map_eq_some_iff] at hcs
    obtain ⟨v, hv, w', _, rfl⟩ := hcs
    cases hv
    refine ⟨rfl, h0.2 s rfl, ?_⟩
    have := hh 0 (.string s) rfl
    simpa using this
   obtain ⟨rfl, ⟨ca, ta, ha⟩, hca⟩ := look hs hp
   obtain ⟨rfl, ⟨cb, tb, hb⟩, hcb⟩ := look hs' hq
   have hab : (⟨p.1, p.2 + 0, none⟩ : Addr) ≠ ⟨q.1, q.2 + 0, none⟩ := fun e => by
    simp only [Nat.add_zero] at e
    rw [e] at hca
    have := hca.symm.trans hcb
    simp only [Option.some.injEq, Value.string.injEq] at this
    exact neS_ok hne (by rw [this])
   exact fin ex.symm ey.symm (run_equalIn_iface_ptr_other w 9998 hu hu1 hi1 hcmp hi2 (by rw [hsz2]; exact beq_false' c5) hab ha hb) ⟨rfl, rfl⟩ (by simp) (by simp) he
 ·rename_i xs ys hx hy
  have ex := ev_ok ht hg hx
  have ey := ev_ok ht hg hy
  simp only [den, Option.map_eq_some_iff] at ex ey
  obtain ⟨as, has, ex⟩ := ex
  obtain ⟨bs, hbs, ey⟩ := ey
  split at he
  case h_2 => cases he
  rename_i ti hti
  split at he
  case h_2 => cases he
  rename_i n el hd
  split at he
  case h_2 => cases he
  rename_i te hte
  split at he
  case h_2 => cases he
  rename_i k0 l r hdk hck heq
  simp only [Bool.and_eq_true] at hck
  have h1 := Nat.eq_of_beq_eq_true hck.1
  have h2 := Nat.eq_of_beq_eq_true hck.2
  have hu := (hty t ti hti).1
  rw [hd] at hu
  obtain ⟨hue, i, z, hi, hsz, _⟩ := hty el te hte
  rw [hdk] at hue
  have hcell : P.cellsOf el = 1 := by simp [Program.cellsOf, hi, hsz, h1]
  have hr : (Op.equal t (.agg as.toArray) (.agg bs.toArray)).run P w = .ok r w := by
   have := run_equalIn_array (P := P) w 9999 as.toArray bs.toArray hu hi
   refine Eq.trans this ?_
   rw [hcell, ← h2, List.range_eq_range']
   exact run_eqItems_ints 9998 hue as.toArray bs.toArray xs ys 0 l r heq (by simpa using has) (by simpa using hbs)
  have hg0 : ∀ op : BinOp, (eqGuard op t x y (.agg as.toArray) (.agg bs.toArray)).run P w = .ok () w := fun op => by
   refine run_eqGuard_agg w op t x y _ _ ?_
   obtain ⟨d, hdep⟩ := hsum.2.2.2
   rw [hdep]
   simp [Program.eqGuardType, hu, hue]
  refine sim_pure (x := match op with | .eql => .bool r | _ => .bool (!r)) ?_ ?_ ?_ ?_ hT
  ·unfold execOp
   simp only [hop, ← ex, ← ey]
   cases op <;> simp only [eqBool] at he <;> first | (cases he; done) | skip
   ·rw [Sem.run_bind, Sem.run_bind, hg0, Result.andThen_ok]
    show (((do pure (.bool (← Op.equal t (.agg as.toArray) (.agg bs.toArray)))) : Sem Value).run P w).andThen _ = _
    rw [Sem.run_bind, hr]; rfl
   ·rw [Sem.run_bind, Sem.run_bind, hg0, Result.andThen_ok]
    show (((do pure (.bool (!(← Op.equal t (.agg as.toArray) (.agg bs.toArray))))) : Sem Value).run P w).andThen _ = _
    rw [Sem.run_bind, hr]; rfl
  all_goals (cases op <;> simp only [eqBool] at he <;> first | (cases he; done) | (cases he; rfl))
 ·cases he
theorem eqIs_map (k : IntKind) : ∀ (xs ys : List Int), xs.length = ys.length → ∃ l, eqIs (xs.map (SV.int false k)) (ys.map (SV.int false k)) = some (l, decide (xs = ys))
 | [], [], _ => ⟨true, rfl⟩
 | [], _ :: _, h => by simp at h
 | _ :: _, [], h => by simp at h
 | x :: xs, y :: ys, h => by
   obtain ⟨l, hl⟩ := eqIs_map k xs ys (by simpa using h)
   refine ⟨false && (false && l), ?_⟩
   simp only [List.map_cons, eqIs, beqKind, decide_true, hl]
   by_cases e : x = y
   ·subst e; simp
   ·simp [e]
theorem eSameA_ok (hty : TyOK P Γ) (hsum : SumsOK P Γ) (ht : TmpOK V g a) (hg : GlobOK Γ V) (hT : TabOK w0 M V T w) {op : BinOp} {t t2 : TypeId} {x y : Operand} (hop : o.op = .binOp op t x y t2)
  (he : eSameA Γ g op t x y = some e) (ho : ∀ q ∈ e.obl, q) (lab : Nat) : Sim P w0 M V T lab e o a w := by
 unfold eSameA at he
 split at he
 case h_2 => cases he
 rename_i k xs k2 ys ti hx hy hti
 split at he
 case h_2 => cases he
 rename_i n el hd
 split at he
 case h_2 => cases he
 rename_i te hte
 split at he
 case h_2 => cases he
 rename_i k0 hdk hs1 hkk
 have hs1 := Nat.eq_of_beq_eq_true hs1
 have hkk : k = k2 := of_decide_eq_true hkk
 subst hkk
 simp only [Option.bind_eq_some_iff] at hx hy
 obtain ⟨vx, hx, hix⟩ := hx
 obtain ⟨vy, hy, hiy⟩ := hy
 have ex := (ev_ok ht hg hx).symm.trans (intsOf_ok hix)
 have ey := (ev_ok ht hg hy).symm.trans (intsOf_ok hiy)
 simp only [Option.some.injEq] at ex ey
 have hu := (hty t ti hti).1
 rw [hd] at hu
 obtain ⟨hue, i, z, hi, hsz, _⟩ := hty el te hte
 rw [hdk] at hue
 have hcell : P.cellsOf el = 1 := by simp [Program.cellsOf, hi, hsz, hs1]
 have hlen : xs.length = n ∧ ys.length = n := by
  cases op <;> simp only [eSameB] at he <;> first | (cases he; done) | (cases he; exact ho _ (by simp))
 obtain ⟨l, hl⟩ := eqIs_map k xs ys (by omega)
 have dm : ∀ zs : List Int, denL V (zs.map (SV.int false k)) = some (zs.map (Value.int k)) := fun zs => by
  induction zs with
  | nil => rfl
  | cons z zs ih => simp [denL, den, ih]
 have hr : (Op.equal t (.agg (xs.map (Value.int k)).toArray) (.agg (ys.map (Value.int k)).toArray)).run P w = .ok (decide (xs = ys)) w := by
  have := run_equalIn_array (P := P) w 9999 (xs.map (Value.int k)).toArray (ys.map (Value.int k)).toArray hu hi
  refine Eq.trans this ?_
  rw [hcell, ← hlen.1, List.range_eq_range']
  have := run_eqItems_ints (P := P) (w := w) (V := V) 9998 hue (xs.map (Value.int k)).toArray (ys.map (Value.int k)).toArray (xs.map (SV.int false k)) (ys.map (SV.int false k)) 0 l _ hl (by simpa using dm xs) (by simpa using dm ys)
  simpa using this
 have hg0 : ∀ op : BinOp, (eqGuard op t x y (.agg (xs.map (Value.int k)).toArray) (.agg (ys.map (Value.int k)).toArray)).run P w = .ok () w := fun op => by
  refine run_eqGuard_agg w op t x y _ _ ?_
  obtain ⟨d, hdep⟩ := hsum.2.2.2
  rw [hdep]
  simp [Program.eqGuardType, hu, hue]
 refine sim_pure (x := match op with | .eql => .bool (decide (xs = ys)) | _ => .bool (!decide (xs = ys))) ?_ ?_ ?_ ?_ hT
 ·unfold execOp
  simp only [hop, ex, ey]
  cases op <;> simp only [eSameB] at he <;> first | (cases he; done) | skip
  ·rw [Sem.run_bind, Sem.run_bind, hg0, Result.andThen_ok]
   show (((do pure (.bool (← Op.equal t (.agg (xs.map (Value.int k)).toArray) (.agg (ys.map (Value.int k)).toArray)))) : Sem Value).run P w).andThen _ = _
   rw [Sem.run_bind, hr]; rfl
  ·rw [Sem.run_bind, Sem.run_bind, hg0, Result.andThen_ok]
   show (((do pure (.bool (!(← Op.equal t (.agg (xs.map (Value.int k)).toArray) (.agg (ys.map (Value.int k)).toArray))))) : Sem Value).run P w).andThen _ = _
   rw [Sem.run_bind, hr]; rfl
 all_goals (cases op <;> simp only [eSameB] at he <;> first | (cases he; done) | (cases he; rfl))
theorem eSameP_ok (hty : TyOK P Γ) (hsum : SumsOK P Γ) (ht : TmpOK V g a) (hg : GlobOK Γ V) (hT : TabOK w0 M V T w) {op : BinOp} {t t2 : TypeId} {x y : Operand} (hop : o.op = .binOp op t x y t2)
  (he : eSameP Γ g op t x y = some e) (lab : Nat) : Sim P w0 M V T lab e o a w := by
 unfold eSameP at he
 split at he
 case h_2 => cases he
 rename_i s1 k1 x1 s2 k2 x2 s3 k3 y1 s4 k4 y2 ti hx hy hti
 split at he
 case h_2 => cases he
 rename_i fs hd
 split at he
 case h_2 => cases he
 rename_i f1 f2 hfs
 split at he
 case h_2 => cases he
 rename_i t1 t2 ht1 ht2
 split at he
 case h_2 => cases he
 rename_i d1 d2 hd1 hd2 hck
 simp only [Bool.and_eq_true, Bool.not_eq_true', beq_eq_false_iff_ne, ne_eq] at hck
 obtain ⟨⟨⟨n1, n2⟩, o1, o2⟩, ⟨hk1, hk2⟩, hc⟩ := hck
 have o1 := Nat.eq_of_beq_eq_true o1
 have o2 := Nat.eq_of_beq_eq_true o2
 have hk1 : k1 = k3 := of_decide_eq_true hk1
 have hk2 : k2 = k4 := of_decide_eq_true hk2
 subst hk1 hk2
 have ex := ev_ok ht hg hx
 have ey := ev_ok ht hg hy
 simp only [den, denL, Option.bind_some, Option.map_some, Option.some.injEq] at ex ey
 have hu := (hty t ti hti).1
 rw [hd] at hu
 have hu1 := (hty _ t1 ht1).1
 rw [hd1] at hu1
 have hu2 := (hty _ t2 ht2).1
 rw [hd2] at hu2
 have hfo : P.fieldsOf t = fs := by simp [Program.fieldsOf, hu]
 have hagg : ∀ k, aggD (.int k) = false := fun _ => rfl
 have p1 : ∀ u v : Value, (part f1.type #[u, v] f1.offset).run P w = .ok u w := fun u v => by
  simp [o1, part, Sem.run_bind, run_isAgg hu1, hagg, Result.andThen_ok]
 have p2 : ∀ u v : Value, (part f2.type #[u, v] f2.offset).run P w = .ok v w := fun u v => by
  simp [o2, part, Sem.run_bind, run_isAgg hu2, hagg, Result.andThen_ok]
 have hr : (Op.equal t (.agg #[.int k1 x1, .int k2 x2]) (.agg #[.int k1 y1, .int k2 y2])).run P w = .ok (decide (x1 = y1) && decide (x2 = y2)) w := by
  refine Eq.trans (run_equalIn_struct w 9999 t _ _ (by rw [hfo]; exact hu) (hsum.2.2.1 t hc).2) ?_
  rw [hfo, hfs]
  simp only [Op.eqFields, ne_eq, n1, n2, not_false_eq_true, if_true, Sem.run_bind, p1, Result.andThen_ok, run_equalIn_int w 9998 f1.type k1 d1 x1 y1 hu1]
  have q2 : ∀ u v : Int, (Op.equalIn 9999 f2.type (.int k2 u) (.int k2 v)).run P w = .ok (u == v) w := fun u v => run_equalIn_int w 9998 f2.type k2 d2 u v hu2
  by_cases h1 : x1 = y1 <;> by_cases h2 : x2 = y2 <;> simp [h1, h2, Sem.run_bind, p2, Result.andThen_ok] <;> (try (rw [q2]; simp [h2]))
 have hfa : fs = #[f1, f2] := by apply Array.ext'; simpa using hfs
 have hg0 : ∀ op : BinOp, (eqGuard op t x y (.agg #[.int k1 x1, .int k2 x2]) (.agg #[.int k1 y1, .int k2 y2])).run P w = .ok () w := fun op => by
  refine run_eqGuard_agg w op t x y _ _ ?_
  obtain ⟨d, hdep⟩ := hsum.2.2.2
  rw [hdep]
  simp [Program.eqGuardType, hu, hu1, hu2, hfa]
 refine sim_pure (x := match op with | .eql => .bool (decide (x1 = y1) && decide (x2 = y2)) | _ => .bool (!(decide (x1 = y1) && decide (x2 = y2)))) ?_ ?_ ?_ ?_ hT
 ·unfold execOp
  simp only [hop, ← ex, ← ey]
  split at he
  ·rw [Sem.run_bind, Sem.run_bind, hg0, Result.andThen_ok]
   show (((do pure (.bool (← Op.equal t (.agg #[.int k1 x1, .int k2 x2]) (.agg #[.int k1 y1, .int k2 y2])))) : Sem Value).run P w).andThen _ = _
   rw [Sem.run_bind, hr]; rfl
  ·rw [Sem.run_bind, Sem.run_bind, hg0, Result.andThen_ok]
   show (((do pure (.bool (!(← Op.equal t (.agg #[.int k1 x1, .int k2 x2]) (.agg #[.int k1 y1, .int k2 y2]))))) : Sem Value).run P w).andThen _ = _
   rw [Sem.run_bind, hr]; rfl
  ·cases he
 all_goals (split at he <;> first | (cases he; done) | (cases he; rfl))
theorem eMakeN_ok (hty : TyOK P Γ) (ht : TmpOK V g a) (hg : GlobOK Γ V) (hT : TabOK w0 M V T w) {t : TypeId} {x y : Operand} (hop : o.op = .makeSlice t x y) {lab : Nat} (hf : V.fresh lab) (he : eMakeN Γ g t x y lab = some e) (ho : ∀ q ∈ e.obl, q) : Sim P w0 M V T lab e o a w := by
 unfold eMakeN at he
 split at he
 case h_2 => cases he
 rename_i sx kx n sy ky c ti hx hy hti
 split at he
 case h_2 => cases he
 rename_i el hd
 split at he
 case h_2 => cases he
 rename_i te hte
 split at he
 case h_2 => cases he
 rename_i hzz hsz
 simp only [Option.some.injEq] at he
 subst he
 have hb := ho _ List.mem_cons_self
 have ex := ev_ok ht hg hx
 have ey := ev_ok ht hg hy
 simp only [den, Option.some.injEq] at ex ey
 have hu := (hty t ti hti).1
 rw [hd] at hu
 obtain ⟨_, i, zv, hi, hisz, hby, hz, hzero⟩ := hty el te hte
 have hs1 : i.size = 1 := by rw [hisz]; exact Nat.eq_of_beq_eq_true hsz
 have hzc : zv.cells = #[.slice none 0 0] := by
  have := hzero V
  rw [hzz] at this
  simp only [denL, den, Option.bind_some, Option.map_some, Option.some.injEq] at this
  rw [← Array.toList_inj, ← this]
 rw [← hby] at hb
 have hrun := run_makeSlice_int (P := P) (w := w) (kx := kx) (ky := ky) hu hi hz hzc hs1 hb
 have hexec : (execOp a.eval o).run P w = .ok (.value (.slice (some ⟨w.heap.size, 0, none⟩) n.toNat c.toNat)) (w.alloc (.cells (List.replicate c.toNat (Value.slice none 0 0)).toArray el)) := by
  unfold execOp
  simp only [hop, ← ex, ← ey, Sem.run_bind, hrun, Result.andThen_ok, Sem.run_pure]
 intro K Q hK
 unfold Oper.wp
 rw [hexec, Oper.upon_value]
 exact hK _ _ _ (Val.put_ext hf lab (Nat.le_refl _) (by omega) _) (by simp [den, Val.put]) (hT.alloc hf (B := .vals _ el) (.inr (.inr rfl)) rfl _ _)
theorem eSameN_ok (hty : TyOK P Γ) (ht : TmpOK V g a) (hg : GlobOK Γ V) {T' : Tab} (hsub : ∀ l B, T' l = some B → T l = some B) (hT : TabOK w0 M V T w) {op : BinOp} {t t2 : TypeId} {x y : Operand} (hop : o.op = .binOp op t x y t2)
  (he : eSameN Γ g T' op t x y = some e) (ho : ∀ q ∈ e.obl, q) (lab : Nat) : Sim P w0 M V T lab e o a w := by
 unfold eSameN at he
 split at he
 case h_2 => cases he
 rename_i l i n ti hx hy hti
 split at he
 case h_2 => cases he
 rename_i el ds z hd hB
 simp only [Option.some.injEq] at he
 subst he
 have hi : ds.length ≤ i := ho _ (by simp)
 have ex := ev_ok ht hg hx
 have ey := ev_ok ht hg hy
 simp only [den, Option.some.injEq] at ey
 obtain ⟨v, us, h1, _, _, _, h5⟩ := hT.fro l _ (hsub l _ hB)
 simp only [den, h1, Option.bind_some, rseV, List.getElem?_cons_succ, Option.bind_eq_some_iff] at ex
 obtain ⟨u, hu, hr⟩ := ex
 have hx2 := (rosV_ok hr).1
 have hu2 := h5 i u hu hi
 have e1 : a.eval x = .slice none 0 0 := hx2.trans hu2
 have hut := (hty t ti hti).1
 rw [hd] at hut
 have hq := run_equal_slice (P := P) w hut none none 0 0 0 0 (.inl rfl)
 refine sim_pure (x := .bool true) ?_ rfl rfl rfl hT
 unfold execOp
 simp only [hop, e1, ← ey]
 rw [Sem.run_bind, Sem.run_bind, run_eqGuard_other w .eql t x y _ _ (by simp) (by simp), Result.andThen_ok]
 show (((do pure (.bool (← Op.equal t (.slice none 0 0) (.slice none 0 0)))) : Sem Value).run P w).andThen _ = _
 rw [Sem.run_bind, hq]; rfl
theorem eMakeP_ok (hty : TyOK P Γ) (ht : TmpOK V g a) (hg : GlobOK Γ V) (hT : TabOK w0 M V T w) {t : TypeId} {x y : Operand} (hop : o.op = .makeSlice t x y) {lab : Nat} (hf : V.fresh lab) (he : eMakeP Γ g t x y lab = some e) (ho : ∀ q ∈ e.obl, q) : Sim P w0 M V T lab e o a w := by
 unfold eMakeP at he
 split at he
 case h_2 => cases he
 rename_i kx sy ky c ti hx hy hti
 split at he
 case h_2 => cases he
 rename_i el hd
 split at he
 case h_2 => cases he
 rename_i te hte
 split at he
 case h_2 => cases he
 rename_i hck
 simp only [Bool.and_eq_true] at hck
 have hs2 := Nat.eq_of_beq_eq_true hck.1
 have hz2 := Nat.eq_of_beq_eq_true hck.2
 simp only [Option.some.injEq] at he
 subst he
 obtain ⟨h1, h2, h3⟩ := ho _ List.mem_cons_self
 have ex := ev_ok ht hg hx
 have ey := ev_ok ht hg hy
 simp only [den, Option.some.injEq] at ex ey
 have hu := (hty t ti hti).1
 rw [hd] at hu
 obtain ⟨_, i, z, hi, hisz, hby, hz, hzero⟩ := hty el te hte
 have hi2 : i.size = 2 := hisz.trans hs2
 have hzs : z.cells.size = 2 := by
  have h1 := denL_length (hzero V)
  rw [← hz2, ← h1]; simp
 rw [← hby] at h2
 have en : IntKind.i64.wrap 0 = 0 := wrap64_id (by omega) (by omega)
 have ec : IntKind.i64.wrap c = c := wrap64_id (by omega) (by omega)
 have hti : (typeInfo el).run P w = .ok i w := by simp [typeInfo, hi]
 have hcond : (c < 0 || (i.bytes : Int) * c > 2 ^ 48 || (0 : Int) < 0 || (0 : Int) > c) = false := by simp; omega
 obtain ⟨cur, hcur, hrun⟩ : ∃ cur : Array Value, cur.size = c.toNat * 2 ∧ (Instr.makeSlice t (.int kx 0) (.int ky c)).run P w = .ok (.slice (some ⟨w.heap.size, 0, none⟩) 0 c.toNat) (w.alloc (.cells cur el)) := by
  unfold Instr.makeSlice
  simp only [Sem.run_bind, run_underlying hu w, Result.andThen_ok, asInt, asIntOf, Sem.run_pure, hti, en, ec, hcond, Bool.false_eq_true, if_false, run_askRoom, run_sizeOf hi, hi2]
  by_cases hc0 : c.toNat * 2 = 0
  ·exact ⟨#[], by simp; omega, by simp [show c.toNat = 0 by omega, newRow, show Array.range 0 = #[] from rfl]⟩
  ·refine ⟨(Array.range (c.toNat * 2)).map fun j => z.cells[j % z.cells.size]!, by simp, ?_⟩
   simp only [if_neg hc0, Sem.run_bind, run_zeroValue hi hz, Result.andThen_ok, Sem.run_pure, newRow, run_newObj, World.alloc_eq, Int.toNat_zero]
 intro K Q hK
 unfold Oper.wp
 have hr : (execOp a.eval o).run P w = .ok (.value (.slice (some ⟨w.heap.size, 0, none⟩) 0 c.toNat)) (w.alloc (.cells cur el)) := by
  unfold execOp
  simp only [hop, ← ex, ← ey, Sem.run_bind, hrun, Result.andThen_ok, Sem.run_pure]
 rw [hr, Oper.upon_value]
 have hs : (V.putσ lab (.slice (some ⟨w.heap.size, 0, none⟩) 0 c.toNat)).σ lab = some (.slice (some ⟨w.heap.size, 0, none⟩) 0 c.toNat) := by simp [Val.putσ]
 have hok : okB (V.putσ lab (.slice (some ⟨w.heap.size, 0, none⟩) 0 c.toNat)) (w.alloc (.cells cur el)) lab (.rowp [] el) :=
  ⟨[], rfl, _, hs, rfl, .inr ⟨w.heap.size, c.toNat, cur, rfl, Nat.zero_le _, heap_alloc_new w _, Nat.zero_le _, by simp only [maxLen]; omega, hcur, by simp⟩⟩
 refine hK _ (.slice (some ⟨w.heap.size, 0, none⟩) 0 c.toNat) _ (Val.putσ_ext hf lab (Nat.le_refl _) (by omega) (.slice (some ⟨w.heap.size, 0, none⟩) 0 c.toNat)) (by simp only [den]; exact hs) ?_
 exact hT.appendG (lo := none) (v := .slice none 0 0) (v' := .slice (some ⟨w.heap.size, 0, none⟩) 0 c.toNat) hf hok (fun n hb => by simpa [SB.blk, hs] using hb) (World.grownBy_alloc w _ _) (.inr rfl) (fun _ => rfl) (fun l hl => by cases hl) _ _
theorem opEff_ok (hty : TyOK P Γ) (hsum : SumsOK P Γ) (ht : TmpOK V g a) (hg : GlobOK Γ V) {T' : Tab} (hsub : ∀ l B, T' l = some B → T l = some B) (hT : TabOK w0 M V T w) {lab F : Nat} (hf : V.fresh lab) (hF : V.top F) {h : Option Bool}
  (he : opEff Γ g T' lab F h o = some e) (ho : ∀ q ∈ e.obl, q) : Sim P w0 M V T lab e o a w := by
 unfold opEff at he
 split at he
 ·rename_i hop; exact eMove_ok ht hg hT (.inl hop) he lab
 ·rename_i hop; exact eMove_ok ht hg hT (.inr hop) he lab
 ·rename_i hop; exact ePick_ok ht hg hT hop he lab
 ·rename_i hop; exact eAlloc_ok hty hT hop hf he
 ·rename_i hop
  unfold orE at he
  split at he
  ·rename_i h1; cases he; exact eBox_ok ht hg hsub hT hop hf h1
  ·exact eBoxA_ok ht hg hT hop hf he
 ·rename_i hop; exact eBuild_ok hty ht hg hsub hT hop he ho lab
 ·rename_i hop; exact eBuildSlice_ok hty ht hg hsub hT hop hf he
 ·rename_i hop
  unfold orE at he
  split at he
  ·rename_i h1; cases he; exact eLoadA_ok hty ht hg hsub hT hop h1 ho lab
  ·split at he
   ·rename_i h1; cases he; exact eLoad_ok hty ht hg hsub hT hop h1 ho lab
   ·split at he
    ·rename_i h1; cases he; exact eLoadL_ok hty ht hg hsub hT hop h1 ho lab
    ·exact eLoadP_ok hty ht hg hsub hT hop he ho lab
 ·rename_i hop
  unfold orE at he
  split at he
  ·rename_i h1; cases he; exact eStore_ok hty ht hg hsub hT hop h1 ho lab
  ·split at he
   ·rename_i h1; cases he; exact eStoreA_ok hty ht hg hsub hT hop h1 ho lab
   ·split at he
    ·rename_i h1; cases he; exact eStoreS_ok hty ht hg hsub hT hop h1 lab
    ·exact eStoreB_ok hty ht hg hsub hT hop he ho lab
 ·rename_i hop; exact eNil_ok ht hg hT hop he lab
 ·rename_i hop
  split at he
  ·unfold orE at he
   split at he
   ·rename_i e' he'; cases he; exact eBin_ok hty ht hg hT hop he' ho lab
   ·split at he
    ·rename_i h1; cases he; exact eSame_ok hty hsum ht hg hsub hT hop h1 lab
    ·split at he
     ·rename_i h1; cases he; exact eSameA_ok hty hsum ht hg hT hop h1 ho lab
     ·split at he
      ·rename_i h1; cases he; exact eSameP_ok hty hsum ht hg hT hop h1 lab
      ·exact eSameN_ok hty ht hg hsub hT hop he ho lab
  ·unfold orE at he
   split at he
   ·rename_i e' he'; cases he; exact eBin_ok hty ht hg hT hop he' ho lab
   ·split at he
    ·rename_i h1; cases he; exact eSame_ok hty hsum ht hg hsub hT hop h1 lab
    ·split at he
     ·rename_i h1; cases he; exact eSameA_ok hty hsum ht hg hT hop h1 ho lab
     ·split at he
      ·rename_i h1; cases he; exact eSameP_ok hty hsum ht hg hT hop h1 lab
      ·exact eSameN_ok hty ht hg hsub hT hop he ho lab
  ·exact eBin_ok hty ht hg hT hop he ho lab
 ·rename_i hop; exact eUn_ok ht hg hT hop he lab
 ·rename_i hop
  unfold orE at he
  split at he
  ·rename_i h1; cases he; exact eConv_ok hty ht hg hT hop h1 lab
  ·exact eConvB_ok hty ht hg hsub hT hop he lab
 ·rename_i hop; exact eArr_ok hty ht hg hT hop he ho lab
 ·rename_i hop; exact eMakeIface_ok hty ht hg hT hop he lab
 ·rename_i hop; exact eMakeFunc_ok ht hg hT hop he lab
 ·rename_i hop
  unfold orE at he
  split at he
  ·rename_i h1; cases he; exact eMakeSlice_ok hty ht hg hT hop hf h1 ho
  ·split at he
   ·rename_i h1; cases he; exact eMakeP_ok hty ht hg hT hop hf h1 ho
   ·exact eMakeN_ok hty ht hg hT hop hf he ho
 ·rename_i hop
  unfold orE at he
  split at he
  ·rename_i h1; cases he; exact eSlice0_ok hty ht hg hsub hT hop h1 lab
  ·split at he
   ·rename_i h1; cases he; exact eSlice_ok hty ht hg hsub hT hop h1 ho lab
   ·split at he
    ·rename_i h1; cases he; exact eSliceR_ok hty ht hg hsub hT hop hf h1 ho
    ·split at he
     ·rename_i h1; cases he; exact eSliceF_ok hty ht hg hsub hT hop hf h1 ho
     ·split at he
      ·rename_i h1; cases he; exact eSliceP_ok hty ht hg hsub hT hop hf h1 ho
      ·split at he
       ·rename_i h1; cases he; exact eSliceW_ok hty ht hg hsub hT hop hf h1 ho
       ·exact eSliceQ_ok hty ht hg hsub hT hop hf he ho
 ·rename_i hop; exact eField_ok hty ht hg hT hop he lab
 ·rename_i hop; exact eFieldV_ok hty ht hg hT hop he lab
 ·rename_i hop
  unfold orE at he
  split at he
  ·rename_i h1; cases he; exact eIndexAddr_ok hty ht hg hT hop h1 ho lab
  ·split at he
   ·rename_i h1; cases he; exact eIndexB_ok hty ht hg hsub hT hop h1 ho lab
   ·split at he
    ·rename_i h1; cases he; exact eIndexL_ok hty ht hg hT hop h1 ho lab
    ·exact eIndexP_ok hty ht hg hT hop he ho lab
 ·rename_i hop
  unfold orE at he
  split at he
  ·rename_i h1; cases he; exact eIndexV_ok hty ht hg hT hop h1 lab
  ·exact eIndexA_ok hty ht hg hT hop he ho lab
 ·rename_i hop; exact eExtract_ok ht hg hT hop he lab
 ·rename_i hop; exact eCall_ok hty hsum ht hg hsub hT hf hF hop he ho
 ·cases he
end Ops
end Go.Proofs.YtjomfjihopegmaaGreatDoor.Sx
end
section
open Go
namespace Go.Proofs.YtjomfjihopegmaaGreatDoor.Sx
inductive Tr (α : Type) where
 | lf
 | nd (l : Tr α) (v : Option α) (r : Tr α)
/- The next four by recursors: so the kernel reckons them with little work. -/
noncomputable def Tr.get {α : Type} (t : Tr α) : Nat → Option α := Tr.rec (motive := fun _ => Nat → Option α) (fun _ => none)
 (fun _ v _ ihl ihr n => Bool.rec (Bool.rec (ihr (n / 2 - 1)) (ihl (n / 2)) (Nat.beq (n % 2) 1)) v (Nat.beq n 0)) t
noncomputable def Tr.new {α : Type} (v : α) (f : Nat) : Nat → Tr α := Nat.rec (motive := fun _ => Nat → Tr α) (fun _ => .nd .lf (some v) .lf)
 (fun _ ih n => Bool.rec (Bool.rec (.nd .lf none (ih (n / 2 - 1))) (.nd (ih (n / 2)) none .lf) (Nat.beq (n % 2) 1)) (.nd .lf (some v) .lf) (Nat.beq n 0)) f
noncomputable def Tr.put {α : Type} (v : α) (f : Nat) (t : Tr α) : Nat → Option (Tr α) := Tr.rec (motive := fun _ => Nat → Option (Tr α)) (fun n => Bool.rec none (some (Tr.new v f n)) (Nat.ble (n + 1) (2 ^ f)))
 (fun l u r ihl ihr n => Bool.rec (Bool.rec (Option.rec none (fun r' => some (.nd l u r')) (ihr (n / 2 - 1))) (Option.rec none (fun l' => some (.nd l' u r)) (ihl (n / 2))) (Nat.beq (n % 2) 1)) (some (.nd l (some v) r)) (Nat.beq n 0)) t
theorem Tr.get_lf {α : Type} (n : Nat) : (Tr.lf : Tr α).get n = none := rfl
theorem Tr.get_nd {α : Type} (l r : Tr α) (v : Option α) (n : Nat) : (Tr.nd l v r).get n = if n = 0 then v else if n % 2 = 1 then l.get (n / 2) else r.get (n / 2 - 1) := by
 show Bool.rec (motive := fun _ => Option α) (Bool.rec (motive := fun _ => Option α) (r.get (n / 2 - 1)) (l.get (n / 2)) (Nat.beq (n % 2) 1)) v (Nat.beq n 0) = _
 by_cases h0 : n = 0
 ·subst h0; rfl
 ·rw [if_neg h0]
  have e0 : Nat.beq n 0 = false := by
   cases hb : Nat.beq n 0 with
   | false => rfl
   | true => exact absurd (Nat.eq_of_beq_eq_true hb) h0
  rw [e0]
  by_cases h1 : n % 2 = 1
  ·rw [if_pos h1, h1]; rfl
  ·rw [if_neg h1]
   have e1 : Nat.beq (n % 2) 1 = false := by
    cases hb : Nat.beq (n % 2) 1 with
    | false => rfl
    | true => exact absurd (Nat.eq_of_beq_eq_true hb) h1
   rw [e1]
theorem beq_false {a b : Nat} (h : Nat.beq a b = false) : a ≠ b := fun e => by subst e; rw [Nat.beq_refl] at h; cases h
theorem Tr.get_new {α : Type} (v : α) : ∀ (f n m : Nat), n < 2 ^ f → (Tr.new v f n).get m = if m = n then some v else none
 | 0, n, m, h => by
   have h0 : n = 0 := by simpa using h
   subst h0
   show (Tr.nd .lf (some v) .lf).get m = _
   rw [Tr.get_nd, Tr.get_lf, Tr.get_lf]
   split
   ·rfl
   ·split <;> rfl
 | f + 1, n, m, h => by
   have h2 : n / 2 < 2 ^ f := by rw [Nat.pow_succ] at h; omega
   show Tr.get (Bool.rec (motive := fun _ => Tr α) (Bool.rec (motive := fun _ => Tr α) (.nd .lf none (Tr.new v f (n / 2 - 1))) (.nd (Tr.new v f (n / 2)) none .lf) (Nat.beq (n % 2) 1)) (.nd .lf (some v) .lf) (Nat.beq n 0)) m = _
   cases h0 : Nat.beq n 0 with
   | true =>
     have := Nat.eq_of_beq_eq_true h0
     subst this
     show (Tr.nd .lf (some v) .lf).get m = _
     rw [Tr.get_nd, Tr.get_lf, Tr.get_lf]
     split
     ·rfl
     ·split <;> rfl
   | false =>
     have hn0 := beq_false h0
     cases h1 : Nat.beq (n % 2) 1 with
     | true =>
       have hn1 := Nat.eq_of_beq_eq_true h1
       show (Tr.nd (Tr.new v f (n / 2)) none .lf).get m = _
       rw [Tr.get_nd, Tr.get_lf, Tr.get_new v f _ _ h2]
       by_cases e : m = n
       ·subst e; rw [if_neg hn0, if_pos hn1, if_pos rfl, if_pos rfl]
       ·rw [if_neg e]
        split
        ·rfl
        ·split
         ·rw [if_neg (by omega)]
         ·rfl
     | false =>
       have hn1 := beq_false h1
       show (Tr.nd .lf none (Tr.new v f (n / 2 - 1))).get m = _
       rw [Tr.get_nd, Tr.get_lf, Tr.get_new v f _ _ (by omega)]
       by_cases e : m = n
       ·subst e; rw [if_neg hn0, if_neg hn1, if_pos rfl, if_pos rfl]
       ·rw [if_neg e]
        split
        ·rfl
        ·split
         ·rfl
         ·rw [if_neg (by omega)]
theorem Tr.get_put {α : Type} (v : α) (f : Nat) (t : Tr α) : ∀ (n : Nat) (t' : Tr α), Tr.put v f t n = some t' → ∀ m, t'.get m = if m = n then some v else t.get m := by
 induction t with
 | lf =>
   intro n t' h m
   have h : Bool.rec (motive := fun _ => Option (Tr α)) none (some (Tr.new v f n)) (Nat.ble (n + 1) (2 ^ f)) = some t' := h
   cases hb : Nat.ble (n + 1) (2 ^ f) with
   | false => rw [hb] at h; cases h
   | true =>
     rw [hb] at h
     cases h
     have := Nat.le_of_ble_eq_true hb
     rw [Tr.get_new v f n m (by omega), Tr.get_lf]
 | nd l u r ihl ihr =>
   intro n t' h m
   have h : Bool.rec (motive := fun _ => Option (Tr α)) (Bool.rec (motive := fun _ => Option (Tr α)) (Option.rec (motive := fun _ => Option (Tr α)) none (fun r' => some (.nd l u r')) (Tr.put v f r (n / 2 - 1))) (Option.rec (motive := fun _ => Option (Tr α)) none (fun l' => some (.nd l' u r)) (Tr.put v f l (n / 2))) (Nat.beq (n % 2) 1)) (some (.nd l (some v) r)) (Nat.beq n 0) = some t' := h
   cases h0 : Nat.beq n 0 with
   | true =>
     rw [h0] at h
     cases h
     have := Nat.eq_of_beq_eq_true h0
     subst this
     rw [Tr.get_nd, Tr.get_nd]
     by_cases e : m = 0
     ·subst e; rfl
     ·rw [if_neg e, if_neg e, if_neg e]
   | false =>
     have hn0 := beq_false h0
     rw [h0] at h
     cases h1 : Nat.beq (n % 2) 1 with
     | true =>
       have hn1 := Nat.eq_of_beq_eq_true h1
       rw [h1] at h
       cases hp : Tr.put v f l (n / 2) with
       | none => rw [hp] at h; cases h
       | some l' =>
         rw [hp] at h
         cases h
         have ih := ihl (n / 2) l' hp
         rw [Tr.get_nd, Tr.get_nd]
         by_cases e : m = n
         ·subst e; rw [if_neg hn0, if_pos hn1, ih, if_pos rfl, if_pos rfl]
         ·rw [if_neg e]
          split
          ·rfl
          ·split
           ·rw [ih, if_neg (by omega)]
           ·rfl
     | false =>
       have hn1 := beq_false h1
       rw [h1] at h
       cases hp : Tr.put v f r (n / 2 - 1) with
       | none => rw [hp] at h; cases h
       | some r' =>
         rw [hp] at h
         cases h
         have ih := ihr (n / 2 - 1) r' hp
         rw [Tr.get_nd, Tr.get_nd]
         by_cases e : m = n
         ·subst e; rw [if_neg hn0, if_neg hn1, ih, if_pos rfl, if_pos rfl]
         ·rw [if_neg e]
          split
          ·rfl
          ·split
           ·rfl
           ·rw [ih, if_neg (by omega)]
structure St where
 g : Tr SV
 tb : Tr SB
 nx : Nat
 ws : List Nat
 ob : List Prop
 df : List SV := []
 hs : List Bool := []
noncomputable def St.T (B : Tab) (s : St) : Tab := fun l => match s.tb.get l with
 | some b => some b
 | none => B l
noncomputable def putB (F0 : Nat) : List (Nat × SB) → Tr SB → List Nat → Option (Tr SB × List Nat)
 | [], t, ws => some (t, ws)
 | (l, b) :: r, t, ws => match putB F0 r t ws with
   | none => none
   | some (t, ws) => match Tr.put b 64 t l with
     | none => none
     | some t => some (t, match Nat.blt l F0, ws.elem l with
       | true, false => l :: ws
       | _, _ => ws)
theorem putB_get {F0 : Nat} : ∀ {r : List (Nat × SB)} {t t' : Tr SB} {ws ws' : List Nat}, putB F0 r t ws = some (t', ws') →
  (∀ l, t'.get l = match look l r with | some b => some b | none => t.get l) ∧ (∀ l, l ∈ ws → l ∈ ws') ∧ (∀ l b, look l r = some b → l < F0 → l ∈ ws')
 | [], t, t', ws, ws', h => by
   simp only [putB, Option.some.injEq, Prod.mk.injEq] at h
   obtain ⟨rfl, rfl⟩ := h
   exact ⟨fun l => rfl, fun l hl => hl, fun l b hl => by cases hl⟩
 | (k, c) :: r, t, t', ws, ws', h => by
   simp only [putB] at h
   split at h
   ·cases h
   ·rename_i t1 ws1 h1
    obtain ⟨i1, i2, i3⟩ := putB_get h1
    split at h
    ·cases h
    ·rename_i t2 h2
     simp only [Option.some.injEq, Prod.mk.injEq] at h
     obtain ⟨rfl, hws⟩ := h
     have hg := Tr.get_put c 64 t1 k t2 h2
     have hsub : ∀ l, l ∈ ws1 → l ∈ ws' := by
      intro l hl
      rw [← hws]
      split
      ·exact List.mem_cons_of_mem _ hl
      ·exact hl
     have hk : k < F0 → k ∈ ws' := by
      intro hlt
      rw [← hws]
      split
      ·exact List.mem_cons_self
      ·rename_i hno
       have hb : Nat.blt k F0 = true := by simpa [Nat.blt_eq] using hlt
       cases he : ws1.elem k with
       | true => simpa using he
       | false => exact (hno hb he).elim
     refine ⟨fun l => ?_, fun l hl => hsub l (i2 l hl), fun l b hl hlt => ?_⟩
     ·rw [hg l]
      by_cases e : k = l
      ·subst e; rw [look_cons_eq, if_pos rfl]
      ·rw [look_cons_ne e, if_neg (fun x => e x.symm)]; exact i1 l
     ·by_cases e : k = l
      ·subst e; exact hk hlt
      ·rw [look_cons_ne e] at hl
       exact hsub l (i3 l b hl hlt)
noncomputable def St.step (F0 N : Nat) (s : St) (dst : Option Tmp) (e : Eff) (lab nx : Nat) : Option St :=
 match putB F0 (e.tab lab) s.tb s.ws, Nat.ble e.new.length 8 && e.wr.all (fun p => Nat.blt p.1 nx) with
 | some (tb, ws), true => match dst with
   | none => some { g := s.g, tb := tb, nx := nx, ws := ws, ob := e.obl ++ s.ob, df := s.df, hs := s.hs }
   | some d => match Tr.put e.val 64 s.g d, Nat.blt d N with
     | some g, true => some { g := g, tb := tb, nx := nx, ws := ws, ob := e.obl ++ s.ob, df := s.df, hs := s.hs }
     | _, _ => none
 | _, _ => none
def wantedS (ops : Array Oper) (g : Nat → Option SV) (o : Oper) : Option Bool :=
 match o.guard with
 | none => some true
 | some (j, want) => match (ops[j]?).bind (·.dst) with
   | none => none
   | some d => match g d with
     | some (.bool true b) => some (b == want)
     | some (.raw v) => match v with
       | .bool _ => none
       | _ => some false
     | _ => none
theorem St.step_df {F0 N : Nat} {s s' : St} {dst : Option Tmp} {e : Eff} {lab nx : Nat} (h : s.step F0 N dst e lab nx = some s') : s'.df = s.df := by
 unfold St.step at h
 split at h
 ·split at h
  ·cases h; rfl
  ·split at h
   ·cases h; rfl
   ·cases h
 ·cases h
def toD : Value → Deferred
 | .func f xs ys => { target := .fn f ys, args := xs }
 | _ => { target := .nil, args := #[] }
structure Inv (P : Program) (Γ : Env) (w0 : World) (M : Nat → Prop) (B : Tab) (N F0 : Nat) (V0 : Val) (s : St) (V : Val) (a : Act) (w : World) : Prop where
 tmp : TmpOK V s.g.get a
 keys : ∀ d v, s.g.get d = some v → d < N
 size : N ≤ a.tmps.size
 defers : ∃ xs, denL V s.df = some xs ∧ a.defers = xs.map toD
 tab : TabOK w0 M V (s.T B) w
 glob : GlobOK Γ V
 top : V.top s.nx
 le : V0.le V
 low : ∀ l, l < F0 → V.β l = V0.β l ∧ V.σ l = V0.σ l
 ch : ∀ l, l < F0 → l ∉ s.ws → s.tb.get l = none
 nx : F0 ≤ s.nx
 hi : ∀ l, s.nx ≤ l → s.T B l = none
theorem Val.top.fresh {V : Val} {F : Nat} (h : V.top F) : V.fresh F := fun l h1 _ => h l h1
theorem Val.top.mono {V : Val} {F F' : Nat} (h : V.top F) (hl : F ≤ F') : V.top F' := fun l h1 => h l (Nat.le_trans hl h1)
theorem wantedS_ok {ops : Array Oper} {V : Val} {g : Nat → Option SV} {a : Act} (ht : TmpOK V g a) (hs : ∀ d v, g d = some v → d < a.tmps.size) {o : Oper} {b : Bool} (h : wantedS ops g o = some b) : Region.wanted o (yielded ops a.tmps) = b := by
 unfold wantedS at h
 unfold Region.wanted
 split at h
 ·rename_i hg; simp only [Option.some.injEq] at h; subst h; rw [hg]
 ·rename_i j want hg
  rw [hg]
  split at h
  ·cases h
  ·rename_i d hd
   split at h
   ·rename_i c hc
    simp only [Option.some.injEq] at h
    subst h
    have hv := ht d _ hc
    have hlt := hs d _ hc
    simp only [den, Option.some.injEq, Act.eval] at hv
    have hget : a.tmps[d]? = some (.bool c) := by
     rw [Array.getElem?_eq_getElem hlt]
     rw [Array.getD_eq_getD_getElem?, Array.getElem?_eq_getElem hlt, Option.getD_some] at hv
     rw [hv]
    simp only [yielded, hd, Option.bind_some, hget]
    cases c <;> cases want <;> rfl
   ·rename_i v hc
    split at h
    ·cases h
    ·rename_i hnb
     simp only [Option.some.injEq] at h
     subst h
     have hv := ht d _ hc
     have hlt := hs d _ hc
     simp only [den, Option.some.injEq, Act.eval] at hv
     have hget : a.tmps[d]? = some v := by
      rw [Array.getElem?_eq_getElem hlt]
      rw [Array.getD_eq_getD_getElem?, Array.getElem?_eq_getElem hlt, Option.getD_some] at hv
      rw [hv]
     have hy : yielded ops a.tmps j = none := by
      simp only [yielded, hd, Option.bind_some, hget]
      split
      ·rename_i b' hq; cases hq; exact absurd rfl (hnb b')
      ·rfl
     show (yielded ops a.tmps j == some want) = false
     rw [hy]
     rfl
   ·cases h
theorem St.step_T {F0 N : Nat} {s s' : St} {dst : Option Tmp} {e : Eff} {lab nx : Nat} (B : Tab) (h : s.step F0 N dst e lab nx = some s') :
  s'.T B = upd (s.T B) lab e ∧ s'.nx = nx ∧ s'.ob = e.obl ++ s.ob ∧ (∀ l, l ∈ s.ws → l ∈ s'.ws) ∧ (∀ l, l < F0 → l ∉ s'.ws → s.tb.get l = none → s'.tb.get l = none) ∧
   (∀ m, s'.g.get m = if dst = some m then some e.val else s.g.get m) ∧ (∀ d, dst = some d → d < N) ∧ e.new.length ≤ 8 ∧ (∀ l b, look l e.wr = some b → l < nx) := by
 unfold St.step at h
 split at h
 case h_2 => cases h
 rename_i tb ws hp hck
 obtain ⟨i1, i2, i3⟩ := putB_get hp
 simp only [Bool.and_eq_true] at hck
 have hck1 := Nat.le_of_ble_eq_true hck.1
 have hck2 : ∀ l b, look l e.wr = some b → l < nx := fun l b hl => by
  have := List.all_eq_true.1 hck.2 _ (look_mem hl)
  simpa [Nat.blt_eq] using this
 have hT : ∀ g nx ob df hs, (St.mk g tb nx ws ob df hs).T B = upd (s.T B) lab e := by
  intro g nx ob df hs
  funext l
  simp only [St.T, upd, i1 l]
  cases look l (e.tab lab) <;> rfl
 have hch : ∀ l, l < F0 → l ∉ ws → s.tb.get l = none → tb.get l = none := by
  intro l hl hn h0
  rw [i1 l]
  cases hk : look l (e.tab lab) with
  | none => exact h0
  | some b => exact (hn (i3 l b hk hl)).elim
 split at h
 ·simp only [Option.some.injEq] at h
  subst h
  exact ⟨hT _ _ _ _ _, rfl, rfl, i2, hch, fun m => by simp, (fun d hd => by cases hd), hck1, hck2⟩
 ·rename_i d
  split at h
  ·rename_i g hg hlt
   simp only [Option.some.injEq] at h
   subst h
   refine ⟨hT _ _ _ _ _, rfl, rfl, i2, hch, fun m => ?_, fun d' hd' => ?_, hck1, hck2⟩
   ·rw [Tr.get_put _ _ _ _ _ hg m]
    by_cases e : m = d
    ·subst e; simp
    ·rw [if_neg e, if_neg (by simp; exact fun x => e x.symm)]
   ·cases hd'; simpa [Nat.blt_eq] using hlt
  ·cases h
theorem Inv.step {P : Program} {Γ : Env} {w0 w w' : World} {M : Nat → Prop} {B : Tab} {N F0 : Nat} {V0 V V' : Val} {s s' : St} {a : Act} {dst : Option Tmp} {e : Eff} {x : Value} {lab nx : Nat}
  (h : Inv P Γ w0 M B N F0 V0 s V a w) (hs : s.step F0 N dst e lab nx = some s') (hle : s.nx ≤ lab) (hn : lab + 8 ≤ nx) (hV : V.ext lab V') (hx : dst.isSome = true → den V' e.val = some x)
  (hT : TabOK w0 M V' (upd (s.T B) lab e) w') : Inv P Γ w0 M B N F0 V0 s' V' (a.put dst x) w' := by
 obtain ⟨h1, h2, h3, h4, h5, h6, h7, h8, h9⟩ := St.step_T B hs
 refine ⟨fun t v hv => ?_, fun d v hv => ?_, ?_, ?_, by rw [h1]; exact hT, fun n l hl => hV.1.1 _ _ (h.glob n l hl), fun l hl => ?_, Val.le_trans h.le hV.1, fun l hl => ?_, fun l hl hw => ?_, ?_, fun l hl => ?_⟩
 ·rw [h6] at hv
  by_cases hd : dst = some t
  ·subst hd
   simp only [if_true, Option.some.injEq] at hv
   subst hv
   have hlt : t < a.tmps.size := Nat.lt_of_lt_of_le (h7 t rfl) h.size
   rw [hx rfl]
   simp [Act.eval, Act.put, Array.getD_eq_getD_getElem?, hlt]
  ·rw [if_neg hd] at hv
   rw [den_mono hV.1 (h.tmp t v hv)]
   rw [Act.eval_put (fun d hd' hq => hd (by cases hq; exact hd'))]
 ·rw [h6] at hv
  by_cases hd : dst = some d
  ·exact h7 d hd
  ·rw [if_neg hd] at hv; exact h.keys d v hv
 ·cases dst with
  | none => exact h.size
  | some d => simpa [Act.put] using h.size
 ·obtain ⟨xs, hx1, hx2⟩ := h.defers
  refine ⟨xs, by rw [St.step_df hs]; exact denL_mono hV.1 hx1, ?_⟩
  cases dst <;> exact hx2
 ·rw [h2] at hl
  have := hV.2 l (.inr (by omega))
  rw [this.1, this.2]
  exact h.top l (by omega)
 ·have := hV.2 l (.inl (by have := h.nx; omega))
  rw [this.1, this.2]
  exact h.low l hl
 ·exact h5 l hl hw (h.ch l hl (fun q => hw (h4 l q)))
 ·rw [h2]; have := h.nx; omega
 ·rw [h2] at hl
  rw [h1]
  unfold upd Eff.tab
  rw [look_append]
  cases hk : look l e.wr with
  | some b => have := h9 l b hk; omega
  | none =>
    have : look l (newL lab e.new) = none := by
     rw [look_newL]
     split
     ·apply List.getElem?_eq_none; omega
     ·rfl
    simp only [this]
    exact h.hi l (by omega)
def deferV (Γ : Env) (g : Nat → Option SV) (c : Call) : Option SV := match evL Γ g c.args.toList, c.callee with
 | some vs, .value f => match ev Γ g f with
   | some (.fn f first capt) => some (.fn f (first ++ vs) capt)
   | _ => none
 | _, _ => none
theorem deferV_ok {P : Program} {Γ : Env} {V : Val} {g : Nat → Option SV} {a : Act} {w : World} (ht : TmpOK V g a) (hg : GlobOK Γ V) {c : Call} {o : Oper} (hop : o.op = .defer c) {v : SV} (h : deferV Γ g c = some v) :
  ∃ x, den V v = some x ∧ (execOp a.eval o).run P w = .ok (.defer (toD x)) w := by
 unfold deferV at h
 split at h
 case h_2 => cases h
 rename_i vs f hvs hc
 split at h
 case h_2 => cases h
 rename_i f' first capt hf
 cases h
 have hd := evL_list ht hg hvs
 have ef := ev_ok ht hg hf
 simp only [den, Option.bind_eq_some_iff, Option.map_eq_some_iff] at ef
 obtain ⟨xf, hxf, xc, hxc, ef⟩ := ef
 refine ⟨.func f' (xf ++ (c.args.map a.eval).toList).toArray xc.toArray, by simp only [den, denL_append hxf hd, hxc, Option.bind_some, Option.map_some], ?_⟩
 unfold execOp
 simp only [hop, resolve, hc, ← ef, Deferred.ofValue, Sem.run_bind, Sem.run_pure, Result.andThen_ok, toD]
 have : (xf ++ (c.args.map a.eval).toList).toArray = xf.toArray ++ c.args.map a.eval := by
  apply Array.ext'; simp
 rw [this]
noncomputable def fixG (ops : Array Oper) (o : Oper) (s : St) : Option St := match o.guard with
 | none => some s
 | some (j, _) => match (ops[j]?).bind (·.dst) with
   | none => some s
   | some d => match s.g.get d with
     | some (.bool false b) => match s.hs with
       | true :: r => match Tr.put (.bool true true) 64 s.g d with
         | some g => some { s with g := g, ob := (b = true) :: s.ob, hs := r }
         | none => none
       | false :: r => match Tr.put (.bool true false) 64 s.g d with
         | some g => some { s with g := g, ob := (b = false) :: s.ob, hs := r }
         | none => none
       | [] => none
     | _ => some s
theorem fixG_ob {ops : Array Oper} {o : Oper} {s s' : St} (h : fixG ops o s = some s') : ∀ q ∈ s.ob, q ∈ s'.ob := by
 intro q hq
 unfold fixG at h
 split at h
 ·cases h; exact hq
 split at h
 ·cases h; exact hq
 split at h
 ·split at h
  ·split at h
   ·cases h; exact List.mem_cons_of_mem _ hq
   ·cases h
  ·split at h
   ·cases h; exact List.mem_cons_of_mem _ hq
   ·cases h
  ·cases h
 ·cases h; exact hq
theorem Inv.known {P : Program} {Γ : Env} {w0 : World} {M : Nat → Prop} {B : Tab} {N F0 : Nat} {V0 : Val} {s : St} {V : Val} {a : Act} {w : World} (hi : Inv P Γ w0 M B N F0 V0 s V a w) {d : Nat} {b c : Bool} {g : Tr SV} {ob : List Prop} {hs : List Bool}
  (hd : s.g.get d = some (.bool false b)) (hp : Tr.put (.bool true c) 64 s.g d = some g) (hb : b = c) : Inv P Γ w0 M B N F0 V0 { s with g := g, ob := ob, hs := hs } V a w := by
 refine ⟨fun m v hv => ?_, fun m v hv => ?_, hi.size, hi.defers, hi.tab, hi.glob, hi.top, hi.le, hi.low, hi.ch, hi.nx, hi.hi⟩
 ·have hv : g.get m = some v := hv
  rw [Tr.get_put _ _ _ _ _ hp m] at hv
  split at hv
  ·rename_i e
   cases hv
   have := hi.tmp d _ hd
   rw [e]
   rw [hb] at this
   exact this
  ·exact hi.tmp m v hv
 ·have hv : g.get m = some v := hv
  rw [Tr.get_put _ _ _ _ _ hp m] at hv
  split at hv
  ·rename_i e; rw [e]; exact hi.keys d _ hd
  ·exact hi.keys m v hv
theorem fixG_ok {P : Program} {Γ : Env} {w0 : World} {M : Nat → Prop} {B : Tab} {N F0 : Nat} {V0 : Val} {s s' : St} {V : Val} {a : Act} {w : World} {ops : Array Oper} {o : Oper} (hi : Inv P Γ w0 M B N F0 V0 s V a w)
  (h : fixG ops o s = some s') (ho : ∀ q ∈ s'.ob, q) : Inv P Γ w0 M B N F0 V0 s' V a w := by
 unfold fixG at h
 split at h
 ·cases h; exact hi
 split at h
 ·cases h; exact hi
 split at h
 ·rename_i hd
  split at h
  ·split at h
   ·rename_i g hp; cases h; exact hi.known hd hp (ho _ List.mem_cons_self)
   ·cases h
  ·split at h
   ·rename_i g hp; cases h; exact hi.known hd hp (ho _ List.mem_cons_self)
   ·cases h
  ·cases h
 ·cases h; exact hi
noncomputable def stepO (Γ : Env) (B : Tab) (F0 N : Nat) (ops : Array Oper) (o : Oper) (s : St) : Option St := match wantedS ops s.g.get o with
 | some true => match o.op with
   | .defer c => match deferV Γ s.g.get c with
     | some v => match s.step F0 N o.dst { val := .raw undef } s.nx (s.nx + 8) with
       | some s' => some { s' with df := v :: s'.df }
       | none => none
     | none => none
   | _ => match opEff Γ s.g.get (s.T B) s.nx (s.nx + 8) none o with
     | some e => s.step F0 N o.dst e s.nx (s.nx + 8)
     | none => none
 | some false => s.step F0 N o.dst { val := .raw undef } s.nx (s.nx + 8)
 | none => none
theorem stepO_ob {Γ : Env} {B : Tab} {F0 N : Nat} {ops : Array Oper} {o : Oper} {s s' : St} (h : stepO Γ B F0 N ops o s = some s') : ∀ q ∈ s.ob, q ∈ s'.ob := by
 intro q hq
 unfold stepO at h
 split at h
 ·split at h
  ·split at h
   ·split at h
    ·rename_i s1 h1
     cases h
     show q ∈ s1.ob
     rw [(St.step_T B h1).2.2.1]; exact List.mem_append_right _ hq
    ·cases h
   ·cases h
  ·split at h
   ·rw [(St.step_T B h).2.2.1]; exact List.mem_append_right _ hq
   ·cases h
 ·rw [(St.step_T B h).2.2.1]; exact List.mem_append_right _ hq
 ·cases h
noncomputable def seqR (Γ : Env) (B : Tab) (F0 N : Nat) (ops : Array Oper) : List Oper → St → Option St
 | [], s => some s
 | o :: r, s => match fixG ops o s with
   | some s1 => match stepO Γ B F0 N ops o s1 with
     | some s2 => seqR Γ B F0 N ops r s2
     | none => none
   | none => none
theorem seqR_ob {Γ : Env} {B : Tab} {F0 N : Nat} {ops : Array Oper} : ∀ {l : List Oper} {s s' : St}, seqR Γ B F0 N ops l s = some s' → ∀ q ∈ s.ob, q ∈ s'.ob
 | [], s, s', h, q, hq => by simp only [seqR, Option.some.injEq] at h; subst h; exact hq
 | o :: r, s, s', h, q, hq => by
   unfold seqR at h
   split at h
   ·rename_i s1 h1
    split at h
    ·rename_i s2 h2
     exact seqR_ob h q (stepO_ob h2 q (fixG_ob h1 q hq))
    ·cases h
   ·cases h
theorem seqR_ok {P : Program} {Γ : Env} {w0 : World} {M : Nat → Prop} {B : Tab} {N F0 : Nat} {V0 : Val} (hty : TyOK P Γ) (hsum : SumsOK P Γ) {ops : Array Oper} {Q : Exit → Act → World → Prop} :
  ∀ {l : List Oper} {s s' : St} {V : Val} {a : Act} {w : World}, seqR Γ B F0 N ops l s = some s' → (∀ q ∈ s'.ob, q) → Inv P Γ w0 M B N F0 V0 s V a w →
    (∀ V' a' w', Inv P Γ w0 M B N F0 V0 s' V' a' w' → Q .normal a' w') → wpList P ops Q l a w
 | [], s, s', V, a, w, h, ho, hi, hQ => by
   simp only [seqR, Option.some.injEq] at h
   subst h
   exact wpList_nil (hQ V a w hi)
 | o :: r, s0, s', V, a, w, h, ho, hi0, hQ => by
   unfold seqR at h
   split at h
   case h_2 => cases h
   rename_i s hfix
   split at h
   case h_2 => cases h
   rename_i s2 hst
   have hi := fixG_ok hi0 hfix (fun q hq => ho q (seqR_ob h q (stepO_ob hst q hq)))
   unfold stepO at hst
   split at hst
   ·rename_i hw
    have hw := wantedS_ok hi.tmp (fun d v hd => Nat.lt_of_lt_of_le (hi.keys d v hd) hi.size) hw
    split at hst
    ·rename_i c hop
     split at hst
     case h_2 => cases hst
     rename_i v hv
     split at hst
     case h_2 => cases hst
     rename_i s1 h1
     cases hst
     refine wpList_step fun K hK => ?_
     rw [if_pos hw]
     obtain ⟨x, hx, hr⟩ := deferV_ok (P := P) (w := w) hi.tmp hi.glob hop hv
     unfold Oper.wp
     rw [hr, Oper.upon_defer]
     have h2 := hi.step (a := a) (w' := w) (x := undef) h1 (Nat.le_refl _) (Nat.le_refl _) (V.ext_refl _) (fun _ => rfl) (by rw [upd_none _ _ rfl rfl]; exact hi.tab)
     refine hK _ _ (seqR_ok hty hsum h ho ⟨?_, h2.keys, ?_, ?_, h2.tab, h2.glob, h2.top, h2.le, h2.low, h2.ch, h2.nx, h2.hi⟩ hQ)
     ·intro t v' hv'
      have := h2.tmp t v' hv'
      rw [this]
      cases o.dst <;> rfl
     ·have := h2.size; cases ho : o.dst <;> (rw [ho] at this; exact this)
     ·obtain ⟨xs, hx1, hx2⟩ := h2.defers
      refine ⟨x :: xs, by simp only [denL, hx, hx1, Option.bind_some, Option.map_some], ?_⟩
      simp only [List.map_cons, ← hx2]
      cases o.dst <;> rfl
    ·split at hst
     case h_2 => cases hst
     rename_i e he
     have h1 := hst
     have hob : ∀ q ∈ e.obl, q := fun q hq => ho q (seqR_ob h q (by rw [(St.step_T B h1).2.2.1]; exact List.mem_append_left _ hq))
     refine wpList_step fun K hK => ?_
     rw [if_pos hw]
     refine opEff_ok hty hsum hi.tmp hi.glob (T' := s.T B) (fun _ _ h => h) hi.tab hi.top.fresh (hi.top.mono (by omega)) he hob K Q fun V' x w' hV hx hT => hK _ _ ?_
     exact seqR_ok hty hsum h ho (hi.step h1 (Nat.le_refl _) (Nat.le_refl _) hV (fun _ => hx) hT) hQ
   ·rename_i hw
    have hw := wantedS_ok hi.tmp (fun d v hd => Nat.lt_of_lt_of_le (hi.keys d v hd) hi.size) hw
    have h1 := hst
    refine wpList_step fun K hK => ?_
    rw [if_neg (by rw [hw]; simp)]
    refine hK _ _ (seqR_ok hty hsum h ho (hi.step h1 (Nat.le_refl _) (Nat.le_refl _) (V.ext_refl _) (fun _ => rfl) ?_) hQ)
    rw [upd_none _ _ rfl rfl]
    exact hi.tab
   ·cases hst
end Go.Proofs.YtjomfjihopegmaaGreatDoor.Sx
end
section
open Go
namespace Go.Proofs.YtjomfjihopegmaaGreatDoor.Sx
def pureOp : Op → Bool
 | .binOp .eql t .. | .binOp .neq t .. => Nat.blt t 6 || (Nat.beq t 26 || Nat.beq t 100)
 | .move _ | .assign _ | .pick .. | .alloc _ | .box .. | .build .. | .buildSlice .. | .nilCheck _ | .binOp .. | .unOp .. | .sliceToArrayPointer .. | .makeInterface .. | .makeFunc .. | .makeSlice .. | .fieldAddr .. | .field .. | .indexAddr .. | .index .. | .extract .. => true
 | .convert s d _ => !Nat.beq s d
 | _ => false
def maskOf (ms : List Nat) : List Edge → Option Nat
 | [] => some 0
 | e :: r => match Region.binds .any e with
   | true => match ms[e.on]?, maskOf ms r with
     | some m, some k => some ((m ||| (1 <<< e.on)) ||| k)
     | _, _ => none
   | false => maskOf ms r
theorem testBit_one_shift (i k : Nat) : (1 <<< i).testBit k = decide (k = i) := by
 rw [Nat.one_shiftLeft, Nat.testBit_two_pow]
 simp [eq_comm]
theorem maskOf_bit {ms : List Nat} : ∀ {es : List Edge} {m : Nat}, maskOf ms es = some m → ∀ k, m.testBit k = true →
  ∃ e ∈ es, Region.binds .any e = true ∧ (k = e.on ∨ ∃ me, ms[e.on]? = some me ∧ me.testBit k = true)
 | [], m, h, k, hk => by simp only [maskOf, Option.some.injEq] at h; subst h; simp at hk
 | e :: r, m, h, k, hk => by
   simp only [maskOf] at h
   split at h
   ·rename_i hb
    split at h
    ·rename_i me mr hme hmr
     simp only [Option.some.injEq] at h
     subst h
     simp only [Nat.testBit_or, Bool.or_eq_true, testBit_one_shift, decide_eq_true_eq] at hk
     rcases hk with (hk | hk) | hk
     ·exact ⟨e, by simp, hb, .inr ⟨me, hme, hk⟩⟩
     ·exact ⟨e, by simp, hb, .inl hk⟩
     ·obtain ⟨e', he', h1, h2⟩ := maskOf_bit hmr k hk
      exact ⟨e', by simp [he'], h1, h2⟩
    ·cases h
   ·obtain ⟨e', he', h1, h2⟩ := maskOf_bit h k hk
    exact ⟨e', by simp [he'], h1, h2⟩
theorem maskOf_on {ms : List Nat} : ∀ {es : List Edge} {m : Nat}, maskOf ms es = some m → ∀ e ∈ es, Region.binds .any e = true → e.on < ms.length ∧ m.testBit e.on = true
 | [], m, h, e, he, _ => by cases he
 | e0 :: r, m, h, e, he, hb => by
   simp only [maskOf] at h
   split at h
   ·split at h
    ·rename_i me mr hme hmr
     simp only [Option.some.injEq] at h
     subst h
     rcases List.mem_cons.1 he with rfl | he
     ·refine ⟨(List.getElem?_eq_some_iff.1 hme).1, ?_⟩
      simp [Nat.testBit_or]
     ·obtain ⟨h1, h2⟩ := maskOf_on hmr e he hb
      exact ⟨h1, by simp [Nat.testBit_or, h2]⟩
    ·cases h
   ·rename_i hnb
    rcases List.mem_cons.1 he with rfl | he
    ·rw [hb] at hnb; cases hnb
    ·exact maskOf_on h e he hb
theorem maskOf_sub {ms : List Nat} : ∀ {es : List Edge} {m : Nat}, maskOf ms es = some m → ∀ e ∈ es, Region.binds .any e = true → ∀ {me : Nat}, ms[e.on]? = some me → ∀ q, me.testBit q = true → m.testBit q = true
 | [], m, h, e, he, _, _, _, _, _ => by cases he
 | e0 :: r, m, h, e, he, hb, me, hme, q, hq => by
   simp only [maskOf] at h
   split at h
   ·split at h
    ·rename_i me' mr hme' hmr
     simp only [Option.some.injEq] at h
     subst h
     rcases List.mem_cons.1 he with rfl | he
     ·rw [hme] at hme'; cases hme'
      simp [Nat.testBit_or, hq]
     ·simp [Nat.testBit_or, maskOf_sub hmr e he hb hme q hq]
    ·cases h
   ·rename_i hnb
    rcases List.mem_cons.1 he with rfl | he
    ·rw [hb] at hnb; cases hnb
    ·exact maskOf_sub h e he hb hme q hq
def dstIx (t : Nat) : List Oper → Nat → Option Nat
 | [], _ => none
 | o :: r, i => match o.dst with
   | some d => match Nat.beq d t with
     | true => some i
     | false => dstIx t r (i + 1)
   | none => dstIx t r (i + 1)
theorem dstIx_some {t : Nat} : ∀ {l : List Oper} {i j : Nat}, dstIx t l i = some j → ∃ o, i ≤ j ∧ l[j - i]? = some o ∧ o.dst = some t
 | [], i, j, h => by cases h
 | o :: r, i, j, h => by
   simp only [dstIx] at h
   have rec' : dstIx t r (i + 1) = some j → ∃ o', i ≤ j ∧ (o :: r)[j - i]? = some o' ∧ o'.dst = some t := by
    intro h
    obtain ⟨o', h1, h2, h3⟩ := dstIx_some h
    refine ⟨o', by omega, ?_, h3⟩
    rw [show j - i = (j - (i + 1)) + 1 from by omega]
    simpa using h2
   split at h
   ·rename_i d hd
    split at h
    ·rename_i hb
     have := Nat.eq_of_beq_eq_true hb
     subst this
     cases h
     exact ⟨o, Nat.le_refl _, by simp, hd⟩
    ·exact rec' h
   ·exact rec' h
def gS (ops : List Oper) (E : Nat → Option Eff) (g0 : Nat → Option SV) (S O : Nat → Bool) (t : Nat) : Option SV :=
 match dstIx t ops 0 with
 | none => g0 t
 | some j => match S j with
   | true => (E j).map (·.val)
   | false => match O j with
     | true => g0 t
     | false => none
def waitsFor (all : Array Oper) (i j : Nat) : Bool := match all[j]? with
 | some o => o.after.toList.any fun e => Nat.beq e.on i && Region.binds .any e
 | none => false
def blkT (T0 : Tab) (lab0 n : Nat) (E : Nat → Option Eff) (S : Nat → Bool) : Tab := fun l =>
 match Nat.ble lab0 l && Nat.blt l (lab0 + 8 * n) with
 | true => match S ((l - lab0) / 8) with
   | true => (E ((l - lab0) / 8)).bind fun e => e.new[(l - lab0) % 8]?
   | false => none
 | false => T0 l
def TS (T0 : Tab) (lab0 n : Nat) (E : Nat → Option Eff) (wr : List (Nat × SB)) (S : Nat → Bool) : Tab := fun l =>
 match look l wr with
 | some b => some b
 | none => blkT T0 lab0 n E S l
def isLoad : Op → Bool
 | .load .. => true
 | .slice .. => true
 | .convert s d _ => Nat.beq s d
 | .call c => match c.callee with
   | .builtin .len => true
   | .builtin .cap => true
   | _ => false
 | _ => false
def lenL : SV → Nat
 | .buf l => l
 | .slcR l _ _ _ => l
 | .ros l _ => l
 | _ => 1000000000
def lenS : SV → Nat
 | .rsl l _ => l
 | .bptr l _ => l
 | v => lenL v
def rdl (Γ : Env) (g : Nat → Option SV) (o : Oper) : Option Nat := match o.op with
 | .load _ x => match ev Γ g x with
   | some (.ptr l _ _) => some l
   | some (.bptr l _) => some l
   | some (.rpt l _) => some l
   | _ => none
 | .slice _ x _ _ _ => (ev Γ g x).map lenS
 | .convert s d x => match Nat.beq s d, ev Γ g x with
   | true, some (.slc l _ _ _ _) => some l
   | _, _ => none
 | .call c => match c.callee, c.args.toList with
   | .builtin .len, [x] => (ev Γ g x).map lenL
   | .builtin .cap, [x] => (ev Γ g x).map lenL
   | _, _ => none
 | _ => none
theorem rdl_load {Γ : Env} {g : Nat → Option SV} {o : Oper} {l : Nat} (h : rdl Γ g o = some l) : isLoad o.op = true := by
 unfold rdl at h
 split at h
 ·rename_i hop; rw [hop]; rfl
 ·rename_i hop; rw [hop]; rfl
 ·rename_i hop
  rw [hop]
  split at h
  ·rename_i hb _; exact hb
  ·cases h
 ·rename_i c hop
  rw [hop]
  split at h
  ·rename_i hc _; simp only [isLoad, hc]
  ·rename_i hc _; simp only [isLoad, hc]
  ·cases h
 ·cases h
def oneT (l : Nat) (T : Tab) : Tab := fun k => match Nat.beq k l with
 | true => T k
 | false => none
theorem oneT_sub {l k : Nat} {T : Tab} {B : SB} (h : oneT l T k = some B) : k = l ∧ T l = some B := by
 unfold oneT at h
 split at h
 ·rename_i hb
  have := Nat.eq_of_beq_eq_true hb
  subst this
  exact ⟨rfl, h⟩
 ·cases h
def farW (l m : Nat) (es : List Eff) : List Nat → Bool
 | [] => true
 | s :: r => match m.testBit s with
   | true => farW l m es r
   | false => match es[s]? with
     | some e => match look l e.wr with
       | none => farW l m es r
       | some _ => false
     | none => false
theorem farW_ok {l m : Nat} {es : List Eff} : ∀ {L : List Nat}, farW l m es L = true → ∀ s ∈ L, m.testBit s = true ∨ ∃ e, es[s]? = some e ∧ look l e.wr = none
 | [], _, s, hs => by cases hs
 | k :: r, h, s, hs => by
   simp only [farW] at h
   split at h
   ·rename_i hk
    rcases List.mem_cons.1 hs with rfl | hs
    ·exact .inl hk
    ·exact farW_ok h s hs
   ·split at h
    case h_2 => cases h
    rename_i e he
    split at h
    ·rename_i hl
     rcases List.mem_cons.1 hs with rfl | hs
     ·exact .inr ⟨e, he, hl⟩
     ·exact farW_ok h s hs
    ·cases h
theorem farW_append {l m : Nat} {es : List Eff} {e : Eff} : ∀ {L : List Nat}, (∀ s ∈ L, s < es.length) → farW l m (es ++ [e]) L = farW l m es L
 | [], _ => rfl
 | s :: r, h => by
   have ih := farW_append (l := l) (m := m) (es := es) (e := e) (L := r) (fun s hs => h s (List.mem_cons_of_mem _ hs))
   simp only [farW, ih, List.getElem?_append_left (h s List.mem_cons_self)]
def gOf (g0 : Nat → Option SV) (all : Array Oper) (es : List Eff) (j m : Nat) : Nat → Option SV :=
 gS all.toList (fun j => es[j]?) g0 (fun k => m.testBit k) (waitsFor all j)
def npOK (Γ : Env) (g0 : Nat → Option SV) (all : Array Oper) (es : List Eff) (ms : List Nat) (wr : List (Nat × SB)) (m : Nat) : List Oper → Nat → Nat → Bool
 | _, _, 0 => true
 | [], _, _ => true
 | o :: r, j, k + 1 => match pureOp o.op || m.testBit j with
   | true => npOK Γ g0 all es ms wr m r (j + 1) k
   | false => match ms[j]? with
     | some mj => match rdl Γ (gOf g0 all es j mj) o with
       | some l => match look l wr with
         | none => npOK Γ g0 all es ms wr m r (j + 1) k
         | some _ => false
       | none => false
     | none => false
theorem npOK_ok {Γ : Env} {g0 : Nat → Option SV} {all : Array Oper} {es : List Eff} {ms : List Nat} {wr : List (Nat × SB)} {m : Nat} : ∀ {l : List Oper} {j k : Nat}, npOK Γ g0 all es ms wr m l j k = true → ∀ (i : Nat) (o : Oper), i < k → l[i]? = some o →
  (pureOp o.op = true ∨ m.testBit (j + i) = true) ∨ ∃ mj lb, ms[j + i]? = some mj ∧ rdl Γ (gOf g0 all es (j + i) mj) o = some lb ∧ look lb wr = none
 | _, _, 0, _, i, o, hi, _ => by omega
 | [], _, k + 1, _, i, o, _, ho => by simp at ho
 | o' :: r, j, k + 1, h, i, o, hi, ho => by
   have rec' : npOK Γ g0 all es ms wr m r (j + 1) k = true → ∀ i', i = i' + 1 → (pureOp o.op = true ∨ m.testBit (j + i) = true) ∨ ∃ mj lb, ms[j + i]? = some mj ∧ rdl Γ (gOf g0 all es (j + i) mj) o = some lb ∧ look lb wr = none := by
    rintro h i' rfl
    simp only [List.getElem?_cons_succ] at ho
    have := npOK_ok h i' o (by omega) ho
    rw [show j + (i' + 1) = j + 1 + i' from by omega]
    exact this
   simp only [npOK] at h
   cases i with
   | zero =>
     simp only [List.getElem?_cons_zero, Option.some.injEq] at ho
     subst ho
     split at h
     ·rename_i hb
      left
      simpa using hb
     ·split at h
      case h_2 => cases h
      rename_i mj hmj
      split at h
      case h_2 => cases h
      rename_i lb hlb
      split at h
      ·rename_i hl
       exact .inr ⟨mj, lb, hmj, hlb, hl⟩
      ·cases h
   | succ i =>
     split at h
     ·exact rec' h i rfl
     ·split at h
      case h_2 => cases h
      split at h
      case h_2 => cases h
      split at h
      ·exact rec' h i rfl
      ·cases h
def wrOf (es : List Eff) : List Nat → List (Nat × SB)
 | [] => []
 | s :: r => match es[s]? with
   | some e => e.wr ++ wrOf es r
   | none => wrOf es r
theorem look_wrOf {es : List Eff} {l : Nat} {b : SB} : ∀ {L : List Nat}, look l (wrOf es L) = some b → ∃ s ∈ L, ∃ e, es[s]? = some e ∧ look l e.wr = some b
 | [], h => by simp [wrOf, look] at h
 | s :: r, h => by
   simp only [wrOf] at h
   have rec' : look l (wrOf es r) = some b → ∃ s' ∈ s :: r, ∃ e, es[s']? = some e ∧ look l e.wr = some b := fun h => by
    obtain ⟨s', h1, h2⟩ := look_wrOf h
    exact ⟨s', List.mem_cons_of_mem _ h1, h2⟩
   split at h
   ·rename_i e he
    rw [look_append] at h
    cases hk : look l e.wr with
    | some b' => rw [hk] at h; cases h; exact ⟨s, List.mem_cons_self, e, he, hk⟩
    | none => rw [hk] at h; exact rec' h
   ·exact rec' h
theorem wrOf_append {es : List Eff} {e : Eff} : ∀ {L : List Nat}, (∀ s ∈ L, s < es.length) → wrOf (es ++ [e]) L = wrOf es L
 | [], _ => rfl
 | s :: r, h => by
   have ih := wrOf_append (es := es) (e := e) (L := r) (fun s hs => h s (List.mem_cons_of_mem _ hs))
   simp only [wrOf, ih, List.getElem?_append_left (h s List.mem_cons_self)]
def inM (m : Nat) : List Nat → Bool
 | [] => true
 | s :: r => match m.testBit s with
   | true => inM m r
   | false => false
theorem inM_ok {m : Nat} : ∀ {L : List Nat}, inM m L = true → ∀ s ∈ L, m.testBit s = true
 | [], _, s, hs => by cases hs
 | k :: r, h, s, hs => by
   simp only [inM] at h
   split at h
   ·rename_i hk
    rcases List.mem_cons.1 hs with rfl | hs
    ·exact hk
    ·exact inM_ok h s hs
   ·cases h
def isNil {α : Type} : List α → Bool
 | [] => true
 | _ => false
def wlt (i : Nat) : List Nat → List Nat
 | [] => []
 | s :: r => match Nat.blt s i with
   | true => s :: wlt i r
   | false => wlt i r
theorem wlt_filter (i : Nat) : ∀ L : List Nat, wlt i L = L.filter fun s => Nat.blt s i
 | [] => rfl
 | s :: r => by
   simp only [wlt, List.filter_cons, wlt_filter i r]
   cases Nat.blt s i <;> rfl
def guardL : List Oper → Nat → Bool
 | [], _ => false
 | o :: r, i => match o.guard with
   | some (j, _) => match Nat.beq j i with
     | true => true
     | false => guardL r i
   | none => guardL r i
def strong (b : Bool) (all : Array Oper) (i : Nat) (e : Eff) : Eff := match e.val with
 | .bool false c => match guardL all.toList i with
   | true => { e with val := .bool true b, obl := (c = b) :: e.obl }
   | false => e
 | _ => e
def nxH (all : Array Oper) (i : Nat) (e : Eff) (hs : List Bool) : List Bool := match e.val with
 | .bool false _ => match guardL all.toList i with
   | true => hs.tail
   | false => hs
 | _ => hs
theorem strong_ok {b : Bool} {all : Array Oper} {i : Nat} {e : Eff} (ho : ∀ q ∈ (strong b all i e).obl, q) : (∀ q ∈ e.obl, q) ∧ (strong b all i e).new = e.new ∧ (strong b all i e).wr = e.wr ∧ ∀ V, den V (strong b all i e).val = den V e.val := by
 unfold strong at ho ⊢
 split
 ·rename_i c hc
  rw [hc] at ho
  simp only at ho
  split
  ·rename_i hg
   rw [hg] at ho
   refine ⟨fun q hq => ho q (List.mem_cons_of_mem _ hq), rfl, rfl, fun V => ?_⟩
   have : c = b := ho _ List.mem_cons_self
   subst this
   rw [hc]; rfl
  ·rename_i hg
   rw [hg] at ho
   exact ⟨ho, rfl, rfl, fun _ => rfl⟩
 ·rename_i hne
  refine ⟨?_, rfl, rfl, fun _ => rfl⟩
  split at ho
  ·rename_i c hc; exact (hne c hc).elim
  ·exact ho
def oneW (Γ : Env) (g : Nat → Option SV) (o : Oper) (wr : List (Nat × SB)) : Bool := match rdl Γ g o with
 | some lb => wr.all fun p => Nat.beq p.1 lb
 | none => false
theorem oneW_ok {Γ : Env} {g : Nat → Option SV} {o : Oper} {wr : List (Nat × SB)} (h : oneW Γ g o wr = true) : ∃ lb, rdl Γ g o = some lb ∧ ∀ l, l ≠ lb → look l wr = none := by
 unfold oneW at h
 split at h
 case h_2 => cases h
 rename_i lb hlb
 refine ⟨lb, hlb, fun l hl => ?_⟩
 cases hk : look l wr with
 | none => rfl
 | some b =>
   have := List.all_eq_true.1 h _ (look_mem hk)
   exact absurd (Nat.eq_of_beq_eq_true this) hl
def eff0 (Γ : Env) (g0 : Nat → Option SV) (T0 : Tab) (lab0 n : Nat) (all : Array Oper) (o : Oper) (i m : Nat) (es : List Eff) (wi : List Nat) : Option Eff :=
 match wantedS all (gOf g0 all es i m) o with
 | some false => some { val := .raw undef }
 | some true => match pureOp o.op with
   | true => opEff Γ (gOf g0 all es i m) (fun _ => none) (lab0 + 8 * i) (lab0 + 8 * n) none o
   | false => match rdl Γ (gOf g0 all es i m) o with
     | some l => match farW l m es (wlt i wi) with
       | true => opEff Γ (gOf g0 all es i m) (oneT l (TS T0 lab0 n (fun j => es[j]?) (wrOf es ((wlt i wi).filter fun s => m.testBit s)) (fun j => m.testBit j))) (lab0 + 8 * i) (lab0 + 8 * n) none o
       | false => none
     | none => match inM m (wlt i wi) with
       | true => opEff Γ (gOf g0 all es i m) (TS T0 lab0 n (fun j => es[j]?) (wrOf es (wlt i wi)) (fun j => m.testBit j)) (lab0 + 8 * i) (lab0 + 8 * n) none o
       | false => none
 | none => none
def eff1 (b : Bool) (Γ : Env) (g0 : Nat → Option SV) (T0 : Tab) (lab0 n : Nat) (all : Array Oper) (o : Oper) (i m : Nat) (es : List Eff) (wi : List Nat) : Option Eff :=
 match eff0 Γ g0 T0 lab0 n all o i m es wi with
 | some e => some (strong b all i e)
 | none => none
def eff2 (Γ : Env) (g0 : Nat → Option SV) (T0 : Tab) (lab0 n : Nat) (all : Array Oper) (o : Oper) (i m : Nat) (es : List Eff) (wi : List Nat) (hs : List Bool) : Option (Eff × List Bool) :=
 match eff0 Γ g0 T0 lab0 n all o i m es wi with
 | some e => some (strong (hs.headD true) all i e, nxH all i e hs)
 | none => none
theorem eff2_eff1 {Γ : Env} {g0 : Nat → Option SV} {T0 : Tab} {lab0 n : Nat} {all : Array Oper} {o : Oper} {i m : Nat} {es : List Eff} {wi : List Nat} {hs hs' : List Bool} {e : Eff} (h : eff2 Γ g0 T0 lab0 n all o i m es wi hs = some (e, hs')) : ∃ b, eff1 b Γ g0 T0 lab0 n all o i m es wi = some e := by
 unfold eff2 at h
 split at h
 case h_2 => cases h
 rename_i e0 h0
 cases h
 exact ⟨hs.headD true, by unfold eff1; rw [h0]⟩
def evalR (Γ : Env) (g0 : Nat → Option SV) (T0 : Tab) (lab0 n : Nat) (all : Array Oper) : List Oper → Nat → List Eff → List Nat → List Nat → List Bool → Option (List Eff × List Nat × List Nat × List Bool)
 | [], _, es, ms, wi, hs => some (es, ms, wi, hs)
 | o :: r, i, es, ms, wi, hs => match maskOf ms o.after.toList with
   | none => none
   | some m => match eff2 Γ g0 T0 lab0 n all o i m es wi hs, (match o.dst with | some d => dstIx d all.toList 0 == some i | none => true) with
     | some (e, hs'), true => match isNil e.wr with
       | true => match Nat.ble e.new.length 8 with
         | true => evalR Γ g0 T0 lab0 n all r (i + 1) (es ++ [e]) (ms ++ [m]) wi hs'
         | false => none
       | false => match Nat.ble e.new.length 8 && npOK Γ g0 all es ms e.wr m all.toList 0 i && e.wr.all (fun p => Nat.blt p.1 lab0 || (Nat.ble lab0 p.1 && m.testBit ((p.1 - lab0) / 8))) && (!pureOp o.op && (!isLoad o.op || oneW Γ (gOf g0 all es i m) o e.wr)) with
         | true => evalR Γ g0 T0 lab0 n all r (i + 1) (es ++ [e]) (ms ++ [m]) (i :: wi) hs'
         | false => none
     | _, _ => none
structure Done (Γ : Env) (g0 : Nat → Option SV) (T0 : Tab) (lab0 n : Nat) (all : Array Oper) (i : Nat) (es : List Eff) (ms : List Nat) (wi : List Nat) : Prop where
 les : es.length = i
 lms : ms.length = i
 lt : ∀ (j m : Nat), ms[j]? = some m → ∀ k, m.testBit k = true → k < j
 cl : ∀ (j m : Nat), ms[j]? = some m → ∀ k mk, m.testBit k = true → ms[k]? = some mk → ∀ q, mk.testBit q = true → m.testBit q = true
 aft : ∀ (j m : Nat) (o : Oper), ms[j]? = some m → all[j]? = some o → ∀ e ∈ o.after, Region.binds .any e = true → e.on < j ∧ m.testBit e.on = true
 aft2 : ∀ (j m : Nat) (o : Oper), ms[j]? = some m → all[j]? = some o → ∀ k, m.testBit k = true → ∃ e ∈ o.after, Region.binds .any e = true ∧ (k = e.on ∨ ∃ me, ms[e.on]? = some me ∧ me.testBit k = true)
 dst : ∀ (j : Nat) (o : Oper) (d : Tmp), j < i → all[j]? = some o → o.dst = some d → dstIx d all.toList 0 = some j
 new : ∀ (j : Nat) (e : Eff), es[j]? = some e → e.new.length ≤ 8
 wrt : ∀ (j : Nat) (e : Eff), es[j]? = some e → e.wr ≠ [] → j ∈ wi
 wlt : ∀ s ∈ wi, s < i
 wso : wi.Pairwise (· > ·)
 wim : ∀ s ∈ wi, ∀ (o : Oper), all[s]? = some o → pureOp o.op = false
 wnp : ∀ s ∈ wi, ∀ (m : Nat), ms[s]? = some m → ∀ (j : Nat) (o : Oper), j < s → all[j]? = some o → (pureOp o.op = true ∨ m.testBit j = true) ∨ ∃ mj lb e, ms[j]? = some mj ∧ es[s]? = some e ∧ rdl Γ (gOf g0 all es j mj) o = some lb ∧ look lb e.wr = none
 wlb : ∀ s ∈ wi, ∀ (m : Nat), ms[s]? = some m → ∀ (e : Eff), es[s]? = some e → ∀ l b, look l e.wr = some b → l < lab0 ∨ (lab0 ≤ l ∧ m.testBit ((l - lab0) / 8) = true)
 eff : ∀ (j m : Nat) (o : Oper) (e : Eff), ms[j]? = some m → all[j]? = some o → es[j]? = some e → ∃ b, eff1 b Γ g0 T0 lab0 n all o j m es wi = some e
 wld : ∀ s ∈ wi, ∀ (o : Oper) (m : Nat) (e : Eff), all[s]? = some o → ms[s]? = some m → es[s]? = some e → isLoad o.op = false ∨ ∃ lb, rdl Γ (gOf g0 all es s m) o = some lb ∧ ∀ l, l ≠ lb → look l e.wr = none
theorem gS_congr {ops : List Oper} {E E' : Nat → Option Eff} {g0 : Nat → Option SV} {S O : Nat → Bool} (h : ∀ j, S j = true → E j = E' j) : gS ops E g0 S O = gS ops E' g0 S O := by
 funext t
 unfold gS
 cases dstIx t ops 0 with
 | none => rfl
 | some j =>
   cases hs : S j with
   | false => simp [hs]
   | true => simp [hs, h j hs]
theorem blkT_congr {T0 : Tab} {lab0 n : Nat} {E E' : Nat → Option Eff} {S : Nat → Bool} (h : ∀ j, S j = true → E j = E' j) : blkT T0 lab0 n E S = blkT T0 lab0 n E' S := by
 funext l
 unfold blkT
 split
 ·cases hs : S ((l - lab0) / 8) with
  | false => rfl
  | true => simp only [h _ hs]
 ·rfl
theorem TS_congr {T0 : Tab} {lab0 n : Nat} {E E' : Nat → Option Eff} {wr : List (Nat × SB)} {S : Nat → Bool} (h : ∀ j, S j = true → E j = E' j) : TS T0 lab0 n E wr S = TS T0 lab0 n E' wr S := by
 funext l
 unfold TS
 rw [blkT_congr h]
theorem eff1_ext {b : Bool} {Γ : Env} {g0 : Nat → Option SV} {T0 : Tab} {lab0 n : Nat} {all : Array Oper} {o : Oper} {j m : Nat} {es : List Eff} {wi wi' : List Nat} (e : Eff) (hm : ∀ k, m.testBit k = true → k < es.length) (hj : j ≤ es.length)
  (hw : wi' = wi ∨ (∃ s, wi' = s :: wi ∧ j ≤ s)) : eff1 b Γ g0 T0 lab0 n all o j m (es ++ [e]) wi' = eff1 b Γ g0 T0 lab0 n all o j m es wi := by
 have hE : ∀ k, m.testBit k = true → (es ++ [e])[k]? = es[k]? := fun k hk => List.getElem?_append_left (hm k hk)
 have hg : gOf g0 all (es ++ [e]) j m = gOf g0 all es j m := gS_congr (ops := all.toList) (E := fun k => (es ++ [e])[k]?) (E' := fun k => es[k]?) (g0 := g0) (S := fun k => m.testBit k) (O := waitsFor all j) hE
 have hwl : wlt j wi' = wlt j wi := by
  rcases hw with rfl | ⟨s, rfl, hs⟩
  ·rfl
  ·have : Nat.blt s j = false := by
    cases hb : Nat.blt s j with
    | false => rfl
    | true => simp [Nat.blt_eq] at hb; omega
   simp [wlt, this]
 have hlt : ∀ s ∈ wlt j wi, s < es.length := fun s hs => by
  rw [wlt_filter, List.mem_filter] at hs
  have : s < j := by simpa [Nat.blt_eq] using hs.2
  omega
 have hwr : wrOf (es ++ [e]) (wlt j wi) = wrOf es (wlt j wi) := wrOf_append hlt
 have hwr2 : wrOf (es ++ [e]) ((wlt j wi).filter fun s => m.testBit s) = wrOf es ((wlt j wi).filter fun s => m.testBit s) := wrOf_append fun s hs => hlt s (List.mem_filter.1 hs).1
 have hfw : ∀ l, farW l m (es ++ [e]) (wlt j wi) = farW l m es (wlt j wi) := fun l => farW_append hlt
 have hT := fun wr => TS_congr (T0 := T0) (lab0 := lab0) (n := n) (E := fun k => (es ++ [e])[k]?) (E' := fun k => es[k]?) (wr := wr) (S := fun k => m.testBit k) hE
 unfold eff1 eff0
 simp only [hg, hwl, hwr, hwr2, hT, hfw]
theorem get_snoc {α : Type} {l : List α} {x y : α} {j : Nat} (h : (l ++ [x])[j]? = some y) : l[j]? = some y ∨ (j = l.length ∧ x = y) := by
 by_cases hj : j < l.length
 ·rw [List.getElem?_append_left hj] at h; exact .inl h
 ·have : j = l.length := by
   have := (List.getElem?_eq_some_iff.1 h).1
   simp at this; omega
  subst this
  simp at h
  exact .inr ⟨rfl, h⟩
theorem Done.nil {Γ : Env} {g0 : Nat → Option SV} {T0 : Tab} {lab0 n : Nat} {all : Array Oper} : Done Γ g0 T0 lab0 n all 0 [] [] [] :=
 ⟨rfl, rfl, (fun j m h => by simp at h), (fun j m h => by simp at h), (fun j m o h => by simp at h), (fun j m o h => by simp at h), (fun j o d h => by omega), (fun j e h => by simp at h), (fun j e h => by simp at h),
  (fun s h => by cases h), List.Pairwise.nil, (fun s h => by cases h), (fun s h => by cases h), (fun s h => by cases h), (fun j m o e h => by simp at h), (fun s h => by cases h)⟩
theorem Done.snoc {Γ : Env} {g0 : Nat → Option SV} {T0 : Tab} {lab0 n : Nat} {all : Array Oper} {i : Nat} {es : List Eff} {ms : List Nat} {wi wi' : List Nat} (h : Done Γ g0 T0 lab0 n all i es ms wi) {o : Oper} {m : Nat} {e : Eff}
  (ho : all[i]? = some o) (hm : maskOf ms o.after.toList = some m) (he : ∃ b, eff1 b Γ g0 T0 lab0 n all o i m es wi = some e) (hd : ∀ d, o.dst = some d → dstIx d all.toList 0 = some i) (hn : e.new.length ≤ 8)
  (hw : (e.wr = [] ∧ wi' = wi) ∨ (wi' = i :: wi ∧ (pureOp o.op = false ∧ (isLoad o.op = false ∨ ∃ lb, rdl Γ (gOf g0 all es i m) o = some lb ∧ ∀ l, l ≠ lb → look l e.wr = none)) ∧ (∀ (j : Nat) (o : Oper), j < i → all[j]? = some o → (pureOp o.op = true ∨ m.testBit j = true) ∨ ∃ mj lb, ms[j]? = some mj ∧ rdl Γ (gOf g0 all es j mj) o = some lb ∧ look lb e.wr = none) ∧ ∀ l b, look l e.wr = some b → l < lab0 ∨ (lab0 ≤ l ∧ m.testBit ((l - lab0) / 8) = true))) :
  Done Γ g0 T0 lab0 n all (i + 1) (es ++ [e]) (ms ++ [m]) wi' := by
 have hmlt : ∀ k, m.testBit k = true → k < i := by
  intro k hk
  obtain ⟨ed, hed, hb, hk⟩ := maskOf_bit hm k hk
  have h1 := (maskOf_on hm ed hed hb).1
  rw [h.lms] at h1
  rcases hk with rfl | ⟨me, hme, hk⟩
  ·exact h1
  ·have := h.lt _ _ hme k hk; omega
 have hext : ∀ (b : Bool) (j m' : Nat) (o' : Oper), ms[j]? = some m' → eff1 b Γ g0 T0 lab0 n all o' j m' (es ++ [e]) wi' = eff1 b Γ g0 T0 lab0 n all o' j m' es wi := by
  intro b j m' o' hj
  have hjl := (List.getElem?_eq_some_iff.1 hj).1
  rw [h.lms] at hjl
  refine eff1_ext e (fun k hk => ?_) (by rw [h.les]; omega) ?_
  ·have := h.lt j m' hj k hk; rw [h.les]; omega
  ·rcases hw with ⟨_, rfl⟩ | ⟨rfl, _⟩
   ·exact .inl rfl
   ·exact .inr ⟨i, rfl, by omega⟩
 have hms : ∀ {j m' : Nat}, ms[j]? = some m' → (ms ++ [m])[j]? = some m' := fun {j m'} hj => by
  rw [List.getElem?_append_left (List.getElem?_eq_some_iff.1 hj).1]; exact hj
 refine ⟨by simp [h.les], by simp [h.lms], fun j m' hj k hk => ?_, fun j m' hj k mk hk hmk q hq => ?_, fun j m' o' hj ho' ed hed hb => ?_, fun j m' o' hj ho' k hk => ?_, fun j o' d hj ho' hd' => ?_, fun j e' he' => ?_, fun j e' he' hne => ?_, fun s hs => ?_, ?_, fun s hs o' ho' => ?_, fun s hs m' hm' j o' hj ho' => ?_, fun s hs m' hm' e' he' l b hl => ?_, fun j m' o' e' hj ho' he' => ?_, fun s hs o' m' e' ho' hm' he' => ?_⟩
 ·rcases get_snoc hj with hj | ⟨rfl, rfl⟩
  ·exact h.lt j m' hj k hk
  ·rw [h.lms]; exact hmlt k hk
 ·have hmk2 : ms[k]? = some mk ∨ k = i := by
   rcases get_snoc hmk with h1 | ⟨h1, _⟩
   ·exact .inl h1
   ·right; rw [h1, h.lms]
  rcases get_snoc hj with hj | ⟨rfl, rfl⟩
  ·have hki := h.lt j m' hj k hk
   have hji := (List.getElem?_eq_some_iff.1 hj).1
   rw [h.lms] at hji
   rcases hmk2 with hmk2 | rfl
   ·exact h.cl j m' hj k mk hk hmk2 q hq
   ·omega
  ·have hki := hmlt k hk
   rcases hmk2 with hmk2 | rfl
   ·obtain ⟨ed, hed, hb, hk2⟩ := maskOf_bit hm k hk
    have key : ∀ k mk, m.testBit k = true → ms[k]? = some mk → mk.testBit q = true → m.testBit q = true := by
     intro k mk hk hmk hq
     obtain ⟨ed, hed, hb, hk2⟩ := maskOf_bit hm k hk
     rcases hk2 with rfl | ⟨me, hme, hk2⟩
     ·exact maskOf_sub hm ed hed hb hmk q hq
     ·exact maskOf_sub hm ed hed hb hme q (h.cl _ me hme k mk hk2 hmk q hq)
    exact key k mk hk hmk2 hq
   ·omega
 ·rcases get_snoc hj with hj | ⟨rfl, rfl⟩
  ·exact h.aft j m' o' hj ho' ed hed hb
  ·rw [h.lms] at ho'
   rw [ho] at ho'; cases ho'
   obtain ⟨h1, h2⟩ := maskOf_on hm ed (by simpa using hed) hb
   exact ⟨h1, h2⟩
 ·rcases get_snoc hj with hj | ⟨rfl, rfl⟩
  ·obtain ⟨ed, h1, h2, h3⟩ := h.aft2 j m' o' hj ho' k hk
   refine ⟨ed, h1, h2, ?_⟩
   rcases h3 with h3 | ⟨me, h3, h4⟩
   ·exact .inl h3
   ·exact .inr ⟨me, hms h3, h4⟩
  ·rw [h.lms] at ho'
   rw [ho] at ho'; cases ho'
   obtain ⟨ed, h1, h2, h3⟩ := maskOf_bit hm k hk
   refine ⟨ed, by simpa using h1, h2, ?_⟩
   rcases h3 with h3 | ⟨me, h3, h4⟩
   ·exact .inl h3
   ·exact .inr ⟨me, hms h3, h4⟩
 ·by_cases hji : j = i
  ·subst hji; rw [ho] at ho'; cases ho'; exact hd d hd'
  ·exact h.dst j o' d (by omega) ho' hd'
 ·rcases get_snoc he' with he' | ⟨_, rfl⟩
  ·exact h.new j e' he'
  ·exact hn
 ·rcases get_snoc he' with he' | ⟨rfl, rfl⟩
  ·have := h.wrt j e' he' hne
   rcases hw with ⟨_, rfl⟩ | ⟨rfl, _⟩
   ·exact this
   ·exact List.mem_cons_of_mem _ this
  ·rcases hw with ⟨hw, _⟩ | ⟨rfl, _⟩
   ·exact absurd hw hne
   ·rw [h.les]; exact List.mem_cons_self
 ·rcases hw with ⟨_, rfl⟩ | ⟨rfl, _⟩
  ·have := h.wlt s hs; omega
  ·rcases List.mem_cons.1 hs with rfl | hs
   ·omega
   ·have := h.wlt s hs; omega
 ·rcases hw with ⟨_, rfl⟩ | ⟨rfl, _⟩
  ·exact h.wso
  ·exact List.pairwise_cons.2 ⟨fun s hs => h.wlt s hs, h.wso⟩
 ·rcases hw with ⟨_, rfl⟩ | ⟨rfl, hpo, _⟩
  ·exact h.wim s hs o' ho'
  ·rcases List.mem_cons.1 hs with rfl | hs
   ·rw [ho] at ho'; cases ho'; exact hpo.1
   ·exact h.wim s hs o' ho'
 ·have hes : ∀ {k e'}, es[k]? = some e' → (es ++ [e])[k]? = some e' := fun {k e'} hk => by
   rw [List.getElem?_append_left (List.getElem?_eq_some_iff.1 hk).1]; exact hk
  have hgo : ∀ {k mk}, ms[k]? = some mk → gOf g0 all (es ++ [e]) k mk = gOf g0 all es k mk := fun {k mk} hk => by
   refine gS_congr fun q hq => List.getElem?_append_left ?_
   have h1 := h.lt k mk hk q hq
   have h2 := (List.getElem?_eq_some_iff.1 hk).1
   rw [h.lms] at h2
   rw [h.les]
   omega
  have old : s ∈ wi → (pureOp o'.op = true ∨ m'.testBit j = true) ∨ ∃ mj lb e', (ms ++ [m])[j]? = some mj ∧ (es ++ [e])[s]? = some e' ∧ rdl Γ (gOf g0 all (es ++ [e]) j mj) o' = some lb ∧ look lb e'.wr = none := fun hs => by
   have hsi := h.wlt s hs
   rcases get_snoc hm' with hm' | ⟨h1, _⟩
   ·rcases h.wnp s hs m' hm' j o' hj ho' with h3 | ⟨mj, lb, e', k1, k2, k3, k4⟩
    ·exact .inl h3
    ·exact .inr ⟨mj, lb, e', hms k1, hes k2, by rw [hgo k1]; exact k3, k4⟩
   ·rw [h.lms] at h1; omega
  rcases hw with ⟨_, rfl⟩ | ⟨rfl, _, hnp, _⟩
  ·exact old hs
  ·rcases List.mem_cons.1 hs with rfl | hs
   ·rcases get_snoc hm' with hm' | ⟨_, rfl⟩
    ·have := (List.getElem?_eq_some_iff.1 hm').1; rw [h.lms] at this; omega
    ·rcases hnp j o' hj ho' with h3 | ⟨mj, lb, k1, k3, k4⟩
     ·exact .inl h3
     ·exact .inr ⟨mj, lb, e, hms k1, by rw [← h.les]; simp, by rw [hgo k1]; exact k3, k4⟩
   ·exact old hs
 ·have old : s ∈ wi → l < lab0 ∨ (lab0 ≤ l ∧ m'.testBit ((l - lab0) / 8) = true) := fun hs => by
   have hsi := h.wlt s hs
   rcases get_snoc hm' with hm' | ⟨h1, _⟩
   ·rcases get_snoc he' with he' | ⟨h1, _⟩
    ·exact h.wlb s hs m' hm' e' he' l b hl
    ·rw [h.les] at h1; omega
   ·rw [h.lms] at h1; omega
  rcases hw with ⟨_, rfl⟩ | ⟨rfl, _, _, hlb⟩
  ·exact old hs
  ·rcases List.mem_cons.1 hs with rfl | hs
   ·rcases get_snoc hm' with hm' | ⟨_, rfl⟩
    ·have := (List.getElem?_eq_some_iff.1 hm').1; rw [h.lms] at this; omega
    ·rcases get_snoc he' with he' | ⟨_, rfl⟩
     ·have := (List.getElem?_eq_some_iff.1 he').1; rw [h.les] at this; omega
     ·exact hlb l b hl
   ·exact old hs
 ·rcases get_snoc hj with hj | ⟨rfl, rfl⟩
  ·have hji := (List.getElem?_eq_some_iff.1 hj).1
   rw [h.lms] at hji
   rcases get_snoc he' with he' | ⟨h1, _⟩
   ·obtain ⟨b, hb⟩ := h.eff j m' o' e' hj ho' he'
    exact ⟨b, by rw [hext b j m' o' hj]; exact hb⟩
   ·rw [h.les] at h1; omega
  ·rw [h.lms] at ho' he' ⊢
   rw [ho] at ho'; cases ho'
   rcases get_snoc he' with he' | ⟨_, rfl⟩
   ·have := (List.getElem?_eq_some_iff.1 he').1; rw [h.les] at this; omega
   ·obtain ⟨b, he⟩ := he
    refine ⟨b, ?_⟩
    rw [eff1_ext e (fun k hk => by rw [h.les]; exact hmlt k hk) (by rw [h.les]; exact Nat.le_refl _) ?_]
    ·exact he
    ·rcases hw with ⟨_, rfl⟩ | ⟨rfl, _⟩
     ·exact .inl rfl
     ·exact .inr ⟨i, rfl, Nat.le_refl _⟩
 ·have hgo : ∀ {k mk}, k ≤ i → (∀ q, mk.testBit q = true → q < k) → gOf g0 all (es ++ [e]) k mk = gOf g0 all es k mk := fun {k mk} hk hlt => by
   refine gS_congr fun q hq => List.getElem?_append_left ?_
   have h1 := hlt q hq
   rw [h.les]
   omega
  have old : s ∈ wi → isLoad o'.op = false ∨ ∃ lb, rdl Γ (gOf g0 all (es ++ [e]) s m') o' = some lb ∧ ∀ l, l ≠ lb → look l e'.wr = none := fun hs => by
   have hsi := h.wlt s hs
   rcases get_snoc hm' with hm' | ⟨h1, _⟩
   ·rcases get_snoc he' with he' | ⟨h1, _⟩
    ·rcases h.wld s hs o' m' e' ho' hm' he' with h3 | ⟨lb, h3, h4⟩
     ·exact .inl h3
     ·exact .inr ⟨lb, by rw [hgo (by omega) (h.lt s m' hm')]; exact h3, h4⟩
    ·rw [h.les] at h1; omega
   ·rw [h.lms] at h1; omega
  rcases hw with ⟨_, rfl⟩ | ⟨rfl, hpo, _⟩
  ·exact old hs
  ·rcases List.mem_cons.1 hs with rfl | hs
   ·rw [ho] at ho'; cases ho'
    rcases get_snoc hm' with hm' | ⟨_, rfl⟩
    ·have := (List.getElem?_eq_some_iff.1 hm').1; rw [h.lms] at this; omega
    ·rcases get_snoc he' with he' | ⟨_, rfl⟩
     ·have := (List.getElem?_eq_some_iff.1 he').1; rw [h.les] at this; omega
     ·rcases hpo.2 with h3 | ⟨lb, h3, h4⟩
      ·exact .inl h3
      ·exact .inr ⟨lb, by rw [hgo (Nat.le_refl _) hmlt]; exact h3, h4⟩
   ·exact old hs
end Go.Proofs.YtjomfjihopegmaaGreatDoor.Sx
end
section
open Go
namespace Go.Proofs.YtjomfjihopegmaaGreatDoor.Sx
theorem filter_le {f f' : Nat → Bool} : ∀ (l : List Nat), (∀ j, f' j = true → f j = true) → (l.filter f').length ≤ (l.filter f).length
 | [], _ => by simp
 | x :: r, h => by
   have ih := filter_le r h
   cases hx : f' x with
   | true => simp [hx, h x hx, ih]
   | false =>
     cases hy : f x with
     | true => simp [hx, hy]; omega
     | false => simp [hx, hy, ih]
theorem filter_lt {f f' : Nat → Bool} {i : Nat} : ∀ (l : List Nat), i ∈ l → (∀ j, f' j = true → f j = true) → f i = true → f' i = false → (l.filter f').length + 1 ≤ (l.filter f).length
 | [], h, _, _, _ => by simp at h
 | x :: r, h, hm, h1, h2 => by
   by_cases e : x = i
   ·subst e
    have := filter_le r hm
    simp [h1, h2, this]
   ·have hr : i ∈ r := by
     rcases List.mem_cons.1 h with h | h
     ·exact absurd h.symm e
     ·exact h
    have ih := filter_lt r hr hm h1 h2
    cases hx : f' x with
    | true => simp [hx, hm x hx]; omega
    | false =>
      cases hy : f x with
      | true => simp [hx, hy]; omega
      | false => simp [hx, hy]; omega
theorem evalR_done {Γ : Env} {g0 : Nat → Option SV} {T0 : Tab} {lab0 n : Nat} {all : Array Oper} : ∀ {r : List Oper} {i : Nat} {es es' : List Eff} {ms ms' : List Nat} {wi wi' : List Nat} {hs hs' : List Bool},
  evalR Γ g0 T0 lab0 n all r i es ms wi hs = some (es', ms', wi', hs') → (∀ k, r[k]? = all[i + k]?) → Done Γ g0 T0 lab0 n all i es ms wi → Done Γ g0 T0 lab0 n all (i + r.length) es' ms' wi'
 | [], i, es, es', ms, ms', wi, wi', hs, hs', h, _, hd => by
   simp only [evalR, Option.some.injEq, Prod.mk.injEq] at h
   obtain ⟨rfl, rfl, rfl, rfl⟩ := h
   exact hd
 | o :: r, i, es, es', ms, ms', wi, wi', hs, hs', h, hr, hd => by
   have ho : all[i]? = some o := by have := hr 0; simpa using this.symm
   have hr' : ∀ k, r[k]? = all[i + 1 + k]? := fun k => by
    have := hr (k + 1)
    rw [show i + 1 + k = i + (k + 1) from by omega]
    simpa using this
   simp only [evalR] at h
   split at h
   ·cases h
   ·rename_i m hm
    split at h
    case h_2 => cases h
    rename_i e hs1 he hdst
    have he := eff2_eff1 he
    have hdst' : ∀ d, o.dst = some d → dstIx d all.toList 0 = some i := by
     intro d hd'
     rw [hd'] at hdst
     simpa using hdst
    split at h
    ·rename_i hnil
     split at h
     case h_2 => cases h
     rename_i hn
     have hw : e.wr = [] := by
      cases hwr : e.wr with
      | nil => rfl
      | cons a b => rw [hwr] at hnil; cases hnil
     have := evalR_done h hr' (hd.snoc ho hm he hdst' (Nat.le_of_ble_eq_true hn) (.inl ⟨hw, rfl⟩))
     rw [show i + (o :: r).length = i + 1 + r.length from by simp; omega]
     exact this
    ·split at h
     ·rename_i hck
      simp only [Bool.and_eq_true, Bool.or_eq_true] at hck
      obtain ⟨⟨⟨c1, c2⟩, c3⟩, c4⟩ := hck
      have := evalR_done h hr' (hd.snoc ho hm he hdst' (Nat.le_of_ble_eq_true c1) (.inr ⟨rfl, ⟨by simpa using c4.1, by
       rcases c4.2 with h1 | h1
       ·exact .inl (by simpa using h1)
       ·exact .inr (oneW_ok h1)⟩, fun j o' hj ho' => ?_, fun l b hl => ?_⟩))
      ·rw [show i + (o :: r).length = i + 1 + r.length from by simp; omega]
       exact this
      ·have := npOK_ok c2 j o' hj (by simpa using ho')
       simpa using this
      ·have := List.all_eq_true.1 c3 _ (look_mem hl)
       simp only [Bool.or_eq_true, Bool.and_eq_true] at this
       rcases this with h1 | ⟨h1, h2⟩
       ·left; simpa [Nat.blt_eq] using h1
       ·right; exact ⟨Nat.le_of_ble_eq_true h1, h2⟩
     ·cases h
def wrS (es : List Eff) (wi : List Nat) (S : Nat → Bool) : List (Nat × SB) := wrOf es (wi.filter S)
structure RInv (P : Program) (Γ : Env) (w0 : World) (M : Nat → Prop) (N : Nat) (df : List Deferred) (g0 : Nat → Option SV) (T0 : Tab) (lab0 : Nat) (all : Array Oper) (es : List Eff) (wi : List Nat) (Vs : Val) (S : Nat → Bool) (V : Val) (a : Act) (w : World) : Prop where
 tmp : TmpOK V (gS all.toList (fun j => es[j]?) g0 S (fun j => !S j)) a
 size : N ≤ a.tmps.size
 defers : a.defers = df
 tab : TabOK w0 M V (TS T0 lab0 all.size (fun j => es[j]?) (wrS es wi S) S) w
 glob : GlobOK Γ V
 top : V.top (lab0 + 8 * all.size)
 fresh : ∀ j, j < all.size → S j = false → V.fresh (lab0 + 8 * j)
 le : Vs.le V
 low : ∀ l, l < lab0 → V.β l = Vs.β l ∧ V.σ l = Vs.σ l
theorem gS_sub {ops : List Oper} {E : Nat → Option Eff} {g0 : Nat → Option SV} {S S' O : Nat → Bool} (h : ∀ j, S j = true → S' j = true) (hO : ∀ j, O j = true → S' j = false) {t : Nat} {v : SV} (hv : gS ops E g0 S O t = some v) : gS ops E g0 S' (fun j => !S' j) t = some v := by
 unfold gS at *
 cases hd : dstIx t ops 0 with
 | none => rw [hd] at hv; exact hv
 | some j =>
   rw [hd] at hv
   simp only at hv ⊢
   cases hs : S j with
   | false =>
     rw [hs] at hv
     simp only at hv
     cases ho : O j with
     | false => rw [ho] at hv; cases hv
     | true => rw [ho] at hv; rw [hO j ho]; exact hv
   | true => rw [hs] at hv; rw [h j hs]; exact hv
theorem TS_sub {T0 : Tab} {lab0 n : Nat} {E : Nat → Option Eff} {wr : List (Nat × SB)} {S S' : Nat → Bool} (h : ∀ j, S j = true → S' j = true) {l : Nat} {B : SB} (hv : TS T0 lab0 n E wr S l = some B) : TS T0 lab0 n E wr S' l = some B := by
 unfold TS at *
 cases hl : look l wr with
 | some b => rw [hl] at hv; exact hv
 | none =>
   rw [hl] at hv
   simp only at hv ⊢
   unfold blkT at *
   split at hv
   ·cases hs : S ((l - lab0) / 8) with
    | false => rw [hs] at hv; cases hv
    | true => rw [hs] at hv; rw [h _ hs]; exact hv
   ·exact hv
theorem rng_true {lab0 l n : Nat} (h1 : lab0 ≤ l) (h2 : l < lab0 + 8 * n) : (Nat.ble lab0 l && Nat.blt l (lab0 + 8 * n)) = true := by
 rw [Nat.ble_eq_true_of_le h1]; simpa [Nat.blt_eq] using h2
theorem rng_false {lab0 l n : Nat} (h : ¬ (lab0 ≤ l ∧ l < lab0 + 8 * n)) : (Nat.ble lab0 l && Nat.blt l (lab0 + 8 * n)) = false := by
 cases hb : (Nat.ble lab0 l && Nat.blt l (lab0 + 8 * n)) with
 | false => rfl
 | true =>
   simp only [Bool.and_eq_true] at hb
   exact absurd ⟨Nat.le_of_ble_eq_true hb.1, by simpa [Nat.blt_eq] using hb.2⟩ h
theorem blkT_step {T0 : Tab} {lab0 n : Nat} {es : List Eff} {S S' : Nat → Bool} {i : Nat} {e : Eff} (hi : i < n) (he : es[i]? = some e) (hS : S i = false) (hS' : ∀ j, S' j = (S j || decide (j = i))) (hn : e.new.length ≤ 8) (l : Nat) :
  blkT T0 lab0 n (fun j => es[j]?) S' l = match look l (newL (lab0 + 8 * i) e.new) with
   | some b => some b
   | none => blkT T0 lab0 n (fun j => es[j]?) S l := by
 rw [look_newL]
 unfold blkT
 by_cases h1 : lab0 ≤ l ∧ l < lab0 + 8 * n
 ·rw [rng_true h1.1 h1.2]
  simp only
  by_cases h3 : (l - lab0) / 8 = i
  ·rw [h3, hS' i, hS]
   simp only [Bool.false_or, decide_true, he, Option.bind_some]
   have h4 : lab0 + 8 * i ≤ l := by omega
   rw [if_pos h4, show (l - lab0) % 8 = l - (lab0 + 8 * i) from by omega]
   cases e.new[l - (lab0 + 8 * i)]? <;> rfl
  ·rw [hS' _, show decide ((l - lab0) / 8 = i) = false from by simpa using h3, Bool.or_false]
   have h5 : (if lab0 + 8 * i ≤ l then e.new[l - (lab0 + 8 * i)]? else none) = none := by
    split
    ·apply List.getElem?_eq_none; omega
    ·rfl
   rw [h5]
 ·rw [rng_false h1]
  have h5 : (if lab0 + 8 * i ≤ l then e.new[l - (lab0 + 8 * i)]? else none) = none := by
   split
   ·apply List.getElem?_eq_none; omega
   ·rfl
  rw [h5]
theorem look_more {es : List Eff} {e : Eff} {S S' : Nat → Bool} {i : Nat} (he : es[i]? = some e) (hS : S i = false) (hS' : ∀ j, S' j = (S j || decide (j = i))) {l : Nat} : ∀ {L : List Nat}, L.Pairwise (· > ·) →
  (i ∈ L → ∀ s ∈ L, S s = true → s < i ∨ ∀ e', es[s]? = some e' → look l e.wr ≠ none → look l e'.wr = none) →
  look l (wrOf es (L.filter S')) = if i ∈ L then (match look l e.wr with | some b => some b | none => look l (wrOf es (L.filter S))) else look l (wrOf es (L.filter S))
 | [], _, _ => by simp
 | x :: r, hp, h => by
   obtain ⟨hp1, hp2⟩ := List.pairwise_cons.1 hp
   by_cases q : x = i
   ·subst q
    have hr : r.filter S' = r.filter S := by
     refine List.filter_congr fun s hs => ?_
     have := hp1 s hs
     rw [hS', show decide (s = x) = false from by simp; omega, Bool.or_false]
    have h1 : S' x = true := by rw [hS']; simp
    rw [if_pos List.mem_cons_self, List.filter_cons, if_pos h1, hr, List.filter_cons, if_neg (by rw [hS]; simp)]
    simp only [wrOf, he, look_append]
    cases look l e.wr <;> rfl
   ·have hx : S' x = S x := by rw [hS', show decide (x = i) = false from by simpa using q, Bool.or_false]
    have ih := look_more he hS hS' (l := l) hp2 (fun hi s hs => h (List.mem_cons_of_mem _ hi) s (List.mem_cons_of_mem _ hs))
    have hmem : i ∈ x :: r ↔ i ∈ r := by
     rw [List.mem_cons]
     exact ⟨fun h => h.resolve_left fun w => q w.symm, .inr⟩
    simp only [hmem]
    cases hb : S x with
    | false =>
      have f1 : (x :: r).filter S' = r.filter S' := by rw [List.filter_cons, hx, hb]; rfl
      have f2 : (x :: r).filter S = r.filter S := by rw [List.filter_cons, hb]; rfl
      rw [f1, f2]
      exact ih
    | true =>
      have f1 : (x :: r).filter S' = x :: r.filter S' := by rw [List.filter_cons, hx, hb]; rfl
      have f2 : (x :: r).filter S = x :: r.filter S := by rw [List.filter_cons, hb]; rfl
      rw [f1, f2]
      cases hes : es[x]? with
      | none => simp only [wrOf, hes]; exact ih
      | some ex =>
        simp only [wrOf, hes, look_append]
        cases hk : look l ex.wr with
        | none => simp only; exact ih
        | some b =>
          simp only
          by_cases hi : i ∈ r
          ·rw [if_pos hi]
           have h2 := hp1 i hi
           rcases h (List.mem_cons_of_mem _ hi) x List.mem_cons_self hb with h3 | h3
           ·omega
           ·cases hw : look l e.wr with
            | none => rfl
            | some b' =>
              have := h3 ex hes (by rw [hw]; simp)
              rw [hk] at this; cases this
          ·rw [if_neg hi]
theorem TS_step {T0 : Tab} {lab0 n : Nat} {es : List Eff} {wi : List Nat} {S S' : Nat → Bool} {i : Nat} {e : Eff} (hi : i < n) (he : es[i]? = some e) (hS : S i = false) (hS' : ∀ j, S' j = (S j || decide (j = i)))
  (hn : e.new.length ≤ 8) (hw : e.wr ≠ [] → i ∈ wi) (hso : wi.Pairwise (· > ·)) (hnw : i ∈ wi → ∀ s ∈ wi, S s = true → s < i ∨ ∀ e', es[s]? = some e' → ∀ l, look l e.wr ≠ none → look l e'.wr = none)
  (hwl : ∀ s ∈ wi, S s = true → ∀ e', es[s]? = some e' → ∀ l b, look l e'.wr = some b → l < lab0 ∨ (lab0 ≤ l ∧ S ((l - lab0) / 8) = true)) :
  TS T0 lab0 n (fun j => es[j]?) (wrS es wi S') S' = upd (TS T0 lab0 n (fun j => es[j]?) (wrS es wi S) S) (lab0 + 8 * i) e := by
 funext l
 have hblk := blkT_step (T0 := T0) (lab0 := lab0) hi he hS hS' hn
 have e0 : look l (wrS es wi S') = match look l e.wr with
   | some b => some b
   | none => look l (wrS es wi S) := by
  unfold wrS
  rw [look_more he hS hS' hso (fun hi s hs hSs => (hnw hi s hs hSs).imp id fun h e' he' hl => h e' he' l hl)]
  by_cases hm : i ∈ wi
  ·rw [if_pos hm]
  ·rw [if_neg hm]
   have : e.wr = [] := by
    cases hk : e.wr with
    | nil => rfl
    | cons x y => exact absurd (hw (by rw [hk]; simp)) hm
   rw [this]
   rfl
 unfold upd Eff.tab
 rw [look_append]
 show (match look l (wrS es wi S') with
  | some b => some b
  | none => blkT T0 lab0 n (fun j => es[j]?) S' l) = _
 rw [e0]
 cases hk : look l e.wr with
 | some b => rfl
 | none =>
   simp only
   cases hk2 : look l (wrS es wi S) with
   | none =>
     simp only
     rw [hblk l]
     cases look l (newL (lab0 + 8 * i) e.new) with
     | some b => rfl
     | none => simp only [TS, hk2]
   | some b =>
     simp only
     have hno : look l (newL (lab0 + 8 * i) e.new) = none := by
      rw [look_newL]
      split
      ·rename_i hge
       obtain ⟨s, hs, e', he', hl⟩ := look_wrOf hk2
       rw [List.mem_filter] at hs
       rcases hwl s hs.1 hs.2 e' he' l b hl with h1 | ⟨h1, h2⟩
       ·omega
       ·apply List.getElem?_eq_none
        have : (l - lab0) / 8 ≠ i := fun q => by rw [q, hS] at h2; cases h2
        omega
      ·rfl
     rw [hno]
     simp only [TS, hk2]
end Go.Proofs.YtjomfjihopegmaaGreatDoor.Sx
end
section
open Go
namespace Go.Proofs.YtjomfjihopegmaaGreatDoor.Sx
section
variable {P : Program} {Γ : Env} {w0 : World} {M : Nat → Prop} {N : Nat} {df : List Deferred} {g0 : Nat → Option SV} {T0 : Tab} {lab0 : Nat} {all : Array Oper} {es : List Eff} {ms : List Nat} {wi : List Nat} {Vs : Val} {Q : Exit → Act → World → Prop}
theorem RInv.put {S S' : Nat → Bool} {V V' : Val} {a : Act} {w w' : World} {i : Nat} {o : Oper} {e : Eff} {x : Value} {m : Nat} (hd : Done Γ g0 T0 lab0 all.size all all.size es ms wi)
  (h : RInv P Γ w0 M N df g0 T0 lab0 all es wi Vs S V a w) (ho : all[i]? = some o) (he : es[i]? = some e) (hm : ms[i]? = some m) (hS : S i = false) (hS' : ∀ j, S' j = (S j || decide (j = i)))
  (hN : ∀ d, o.dst = some d → d < N) (hcl : ∀ s, S s = true → ∀ m, ms[s]? = some m → ∀ k, m.testBit k = true → S k = true)
  (hV : V.ext (lab0 + 8 * i) V') (hx : o.dst.isSome = true → den V' e.val = some x) (hT : TabOK w0 M V' (upd (TS T0 lab0 all.size (fun j => es[j]?) (wrS es wi S) S) (lab0 + 8 * i) e) w') :
  RInv P Γ w0 M N df g0 T0 lab0 all es wi Vs S' V' (a.put o.dst x) w' := by
 have hi : i < all.size := (Array.getElem?_eq_some_iff.1 ho).1
 have hstep := TS_step (T0 := T0) (lab0 := lab0) (n := all.size) (wi := wi) hi he hS hS' (hd.new i e he) (hd.wrt i e he) hd.wso (fun hiw s hs hSs => by
  by_cases hlt : s < i
  ·exact .inl hlt
  ·right
   have hsl := hd.wlt s hs
   obtain ⟨ms', hms'⟩ : ∃ q, ms[s]? = some q := ⟨_, List.getElem?_eq_getElem (by rw [hd.lms]; exact hsl)⟩
   by_cases hsi : s = i
   ·subst hsi; rw [hS] at hSs; cases hSs
   ·rcases hd.wnp s hs ms' hms' i o (by omega) ho with (h3 | h3) | ⟨mj, lb, e', k1, k2, h3, h4⟩
    ·rw [hd.wim i hiw o ho] at h3; cases h3
    ·have := hcl s hSs ms' hms' i h3
     rw [hS] at this; cases this
    ·intro e2 he2 l hl
     rw [k2] at he2; cases he2
     rcases hd.wld i hiw o mj e ho k1 he with h5 | ⟨lb', h5, h6⟩
     ·rw [rdl_load h3] at h5; cases h5
     ·rw [h3] at h5; cases h5
      by_cases hll : l = lb
      ·subst hll; exact h4
      ·exact absurd (h6 l hll) hl) (fun s hs hSs e' he' l b hl => by
  have hsl := hd.wlt s hs
  obtain ⟨ms', hms'⟩ : ∃ q, ms[s]? = some q := ⟨_, List.getElem?_eq_getElem (by rw [hd.lms]; exact hsl)⟩
  rcases hd.wlb s hs ms' hms' e' he' l b hl with h1 | ⟨h1, h2⟩
  ·exact .inl h1
  ·exact .inr ⟨h1, hcl s hSs ms' hms' _ h2⟩)
 refine ⟨fun t v hv => ?_, ?_, ?_, by rw [hstep]; exact hT, fun n l hl => hV.1.1 _ _ (h.glob n l hl), fun l hl => ?_, fun j hj hSj => ?_, Val.le_trans h.le hV.1, fun l hl => ?_⟩
 ·unfold gS at hv
  cases hdx : dstIx t all.toList 0 with
  | none =>
    rw [hdx] at hv
    have hne : ∀ d, o.dst = some d → (Operand.tmp t) ≠ .tmp d := by
     intro d hod hq
     cases hq
     have := hd.dst i o t hi ho hod
     rw [this] at hdx; cases hdx
    rw [Act.eval_put hne]
    exact den_mono hV.1 (h.tmp t v (by unfold gS; rw [hdx]; exact hv))
  | some j =>
    rw [hdx] at hv
    simp only at hv
    by_cases hji : j = i
    ·subst hji
     have hSt : S' j = true := by rw [hS']; simp
     rw [hSt] at hv
     simp only [he, Option.map_some, Option.some.injEq] at hv
     subst hv
     obtain ⟨o', _, ho', hod⟩ := dstIx_some hdx
     have : o' = o := by
      have h1 : all[j]? = some o' := by simpa using ho'
      rw [ho] at h1; cases h1; rfl
     subst this
     have hlt : t < a.tmps.size := Nat.lt_of_lt_of_le (hN t hod) h.size
     rw [hod] at hx ⊢
     rw [hx rfl]
     simp [Act.eval, Act.put, Array.getD_eq_getD_getElem?, hlt]
    ·have hSj : S' j = S j := by rw [hS']; simp [hji]
     rw [hSj] at hv
     have hne : ∀ d, o.dst = some d → (Operand.tmp t) ≠ .tmp d := by
      intro d hod hq
      cases hq
      have := hd.dst i o t hi ho hod
      rw [this] at hdx; cases hdx; exact hji rfl
     rw [Act.eval_put hne]
     exact den_mono hV.1 (h.tmp t v (by unfold gS; rw [hdx]; exact hv))
 ·cases hod : o.dst with
  | none => exact h.size
  | some d => simpa [Act.put] using h.size
 ·cases o.dst <;> exact h.defers
 ·have := hV.2 l (.inr (by omega))
  rw [this.1, this.2]
  exact h.top l hl
 ·rw [hS'] at hSj
  simp only [Bool.or_eq_false_iff, decide_eq_false_iff_not] at hSj
  intro l h1 h2
  have := hV.2 l (by
   rcases Nat.lt_or_ge j i with hlt | hge
   ·left; omega
   ·right; omega)
  rw [this.1, this.2]
  exact h.fresh j hj hSj.1 l h1 h2
 ·have := hV.2 l (.inl (by omega))
  rw [this.1, this.2]
  exact h.low l hl
theorem anyR (hty : TyOK P Γ) (hsum : SumsOK P Γ) (hd : Done Γ g0 T0 lab0 all.size all all.size es ms wi) (hN : ∀ (i : Nat) (o : Oper) (d : Tmp), all[i]? = some o → o.dst = some d → d < N)
  (hob : ∀ e ∈ es, ∀ q ∈ e.obl, q) (hg0 : ∀ d v, g0 d = some v → d < N)
  (hQ : ∀ (S : Nat → Bool) V a w, (∀ j, j < all.size → S j = true) → RInv P Γ w0 M N df g0 T0 lab0 all es wi Vs S V a w → Q .normal a w) :
  ∀ (fuel : Nat) (listed : Array Bool) (V : Val) (a : Act) (w : World), listed.size = all.size → ((List.range all.size).filter fun j => !listed.getD j false).length ≤ fuel →
    (∀ s, listed.getD s false = true → ∀ m, ms[s]? = some m → ∀ k, m.testBit k = true → listed.getD k false = true) →
    RInv P Γ w0 M N df g0 T0 lab0 all es wi Vs (fun j => listed.getD j false) V a w → wpAny P .any all Q fuel listed a w := by
 have done : ∀ (listed : Array Bool), listed.size = all.size → Region.ready .any all listed = [] → ∀ j, j < all.size → listed.getD j false = true := by
  intro listed hl hr j
  induction j using Nat.strongRecOn with
  | ind j ih =>
    intro hj
    cases hb : listed.getD j false with
    | true => rfl
    | false =>
      exfalso
      obtain ⟨o, ho⟩ : ∃ o, all[j]? = some o := ⟨_, Array.getElem?_eq_getElem hj⟩
      obtain ⟨m, hm⟩ : ∃ m, ms[j]? = some m := ⟨_, List.getElem?_eq_getElem (by rw [hd.lms]; exact hj)⟩
      have : j ∈ Region.ready .any all listed := by
       rw [mem_ready]
       refine ⟨?_, o, ho, fun e he hbd => ?_⟩
       ·have hlt : j < listed.size := by omega
        simp [hlt] at hb ⊢
        exact hb
       ·have := (hd.aft j m o hm ho e he hbd).1
        exact ih e.on this (by omega)
      rw [hr] at this
      cases this
 intro fuel
 induction fuel with
 | zero =>
   intro listed V a w hl hc hcl hi
   have hall : ∀ j, j < all.size → listed.getD j false = true := by
    intro j hj
    cases hb : listed.getD j false with
    | true => rfl
    | false =>
      exfalso
      have : j ∈ (List.range all.size).filter fun j => !listed.getD j false := by
       rw [List.mem_filter]
       exact ⟨List.mem_range.2 hj, by simp only [hb, Bool.not_false]⟩
      have h0 := List.eq_nil_of_length_eq_zero (Nat.le_zero.1 hc)
      rw [h0] at this
      cases this
   refine ⟨?_, hQ _ V a w hall hi⟩
   cases hr : Region.ready .any all listed with
   | nil => rfl
   | cons x xs =>
     exfalso
     have hx : x ∈ Region.ready .any all listed := by rw [hr]; simp
     obtain ⟨h1, o, ho, _⟩ := mem_ready.1 hx
     have hlt := (Array.getElem?_eq_some_iff.1 ho).1
     have h2 := hall x hlt
     have hls : x < listed.size := by omega
     simp [hls] at h1 h2
     rw [h1] at h2; cases h2
 | succ fuel ih =>
   intro listed V a w hl hc hcl hi
   refine ⟨fun hr => hQ _ V a w (done listed hl hr) hi, fun i hir => ?_⟩
   obtain ⟨h1, o, ho, haft⟩ := mem_ready.1 hir
   have hlt := (Array.getElem?_eq_some_iff.1 ho).1
   have hls : i < listed.size := by omega
   have hSi : listed.getD i false = false := by simp [hls] at h1 ⊢; exact h1
   obtain ⟨m, hm⟩ : ∃ m, ms[i]? = some m := ⟨_, List.getElem?_eq_getElem (by rw [hd.lms]; exact hlt)⟩
   obtain ⟨e, he⟩ : ∃ e, es[i]? = some e := ⟨_, List.getElem?_eq_getElem (by rw [hd.les]; exact hlt)⟩
   have hmS : ∀ k, m.testBit k = true → listed.getD k false = true := by
    intro k hk
    obtain ⟨ed, hed, hb, hk2⟩ := hd.aft2 i m o hm ho k hk
    have hon := haft ed hed hb
    rcases hk2 with rfl | ⟨me, hme, hk2⟩
    ·exact hon
    ·exact hcl ed.on hon me hme k hk2
   have hset : ∀ j, (listed.setIfInBounds i true).getD j false = (listed.getD j false || decide (j = i)) := by
    intro j
    by_cases hji : j = i
    ·subst hji
     have : (listed.setIfInBounds j true).getD j false = true := by simp [hls]
     rw [this]; simp
    ·rw [getD_set_ne false (Ne.symm hji)]; simp [hji]
   have hnext : ∀ V' a' w', RInv P Γ w0 M N df g0 T0 lab0 all es wi Vs (fun j => (listed.setIfInBounds i true).getD j false) V' a' w' → wpAny P .any all Q fuel (listed.setIfInBounds i true) a' w' := by
    intro V' a' w' hi'
    refine ih _ V' a' w' (by simpa using hl) ?_ (fun s hs m' hm' k hk => ?_) hi'
    ·have := filter_lt (f := fun j => !listed.getD j false) (f' := fun j => !(listed.setIfInBounds i true).getD j false) (i := i) (List.range all.size) (List.mem_range.2 hlt) (fun j hj => by
      rw [hset] at hj
      simp only [Bool.not_eq_true', Bool.or_eq_false_iff] at hj
      simp only [hj.1, Bool.not_false]) (by simp only [hSi, Bool.not_false]) (by rw [hset]; simp)
     omega
    ·rw [hset] at hs ⊢
     simp only [Bool.or_eq_true, decide_eq_true_eq] at hs ⊢
     rcases hs with hs | rfl
     ·exact .inl (hcl s hs m' hm' k hk)
     ·rw [hm] at hm'; cases hm'
      exact .inl (hmS k hk)
   obtain ⟨b0, heff⟩ := hd.eff i m o e hm ho he
   have hobe0 : ∀ q ∈ e.obl, q := hob e (List.mem_of_getElem? he)
   unfold eff1 at heff
   split at heff
   case h_2 => cases heff
   rename_i e1 heff1
   simp only [Option.some.injEq] at heff
   obtain ⟨hobe, hn1, hw1, hv1⟩ : (∀ q ∈ e1.obl, q) ∧ e.new = e1.new ∧ e.wr = e1.wr ∧ ∀ V, den V e.val = den V e1.val := by subst heff; exact strong_ok hobe0
   have hupd : ∀ T : Tab, ∀ l, upd T l e = upd T l e1 := fun T l => by unfold upd Eff.tab; rw [hn1, hw1]
   have hwf : ∀ j, waitsFor all i j = true → listed.getD j false = false := by
    intro j hj
    cases hb : listed.getD j false with
    | false => rfl
    | true =>
      exfalso
      unfold waitsFor at hj
      split at hj
      case h_2 => cases hj
      rename_i oj hoj
      obtain ⟨ed, hed, hq⟩ := List.any_eq_true.1 hj
      simp only [Bool.and_eq_true] at hq
      have hjl := (Array.getElem?_eq_some_iff.1 hoj).1
      obtain ⟨mj, hmj⟩ : ∃ m, ms[j]? = some m := ⟨_, List.getElem?_eq_getElem (by rw [hd.lms]; exact hjl)⟩
      have h3 := (hd.aft j mj oj hmj hoj ed (by simpa using hed) hq.2).2
      rw [Nat.eq_of_beq_eq_true hq.1] at h3
      have := hcl j hb mj hmj i h3
      rw [hSi] at this; cases this
   have hgsub : ∀ {t v}, gOf g0 all es i m t = some v → gS all.toList (fun j => es[j]?) g0 (fun j => listed.getD j false) (fun j => !listed.getD j false) t = some v := fun hv => gS_sub hmS hwf hv
   have htm : TmpOK V (gOf g0 all es i m) a := fun t v hv => hi.tmp t v (hgsub hv)
   have hkeys : ∀ d v, gOf g0 all es i m d = some v → d < a.tmps.size := by
    intro d v hv
    refine Nat.lt_of_lt_of_le ?_ hi.size
    unfold gOf gS at hv
    cases hdx : dstIx d all.toList 0 with
    | none => rw [hdx] at hv; exact hg0 d v hv
    | some j =>
      obtain ⟨o', _, ho', hod⟩ := dstIx_some hdx
      exact hN j o' d (by simpa using ho') hod
   have hput : ∀ {V' x w'}, V.ext (lab0 + 8 * i) V' → (o.dst.isSome = true → den V' e1.val = some x) → TabOK w0 M V' (upd (TS T0 lab0 all.size (fun j => es[j]?) (wrS es wi (fun j => listed.getD j false)) (fun j => listed.getD j false)) (lab0 + 8 * i) e1) w' →
     wpAny P .any all Q fuel (listed.setIfInBounds i true) (a.put o.dst x) w' := fun hV hx hT =>
    hnext _ _ _ (hi.put hd ho he hm hSi hset (fun d hod => hN i o d ho hod) hcl hV (fun hs => by rw [hv1]; exact hx hs) (by rw [hupd]; exact hT))
   unfold wpOp
   simp only [ho]
   have heff := heff1
   unfold eff0 at heff
   split at heff
   ·rename_i hw
    have hw := wantedS_ok htm hkeys hw
    rw [if_neg (by rw [hw]; simp)]
    simp only [Option.some.injEq] at heff
    subst heff
    refine hput (V.ext_refl _) (fun _ => rfl) ?_
    rw [upd_none _ _ rfl rfl]
    exact hi.tab
   ·rename_i hw
    have hw := wantedS_ok htm hkeys hw
    rw [if_pos hw]
    left
    have sim : ∀ {T' : Tab}, (∀ l B, T' l = some B → TS T0 lab0 all.size (fun j => es[j]?) (wrS es wi (fun j => listed.getD j false)) (fun j => listed.getD j false) l = some B) →
      opEff Γ (gOf g0 all es i m) T' (lab0 + 8 * i) (lab0 + 8 * all.size) none o = some e1 →
      o.wp P a w (wpAny P .any all Q fuel (listed.setIfInBounds i true)) Q := fun hsub he' =>
     opEff_ok hty hsum htm hi.glob hsub hi.tab (hi.fresh i hlt hSi) hi.top he' hobe _ Q fun V' x w' hV hx hT => hput hV (fun _ => hx) hT
    split at heff
    ·exact sim (fun l B hB => by cases hB) heff
    ·rename_i hpure
     have late : ∀ s ∈ wi, listed.getD s false = true → ¬ s < i → ∃ lb e', es[s]? = some e' ∧ rdl Γ (gOf g0 all es i m) o = some lb ∧ look lb e'.wr = none := by
      intro s hs hSs hsi
      have hsl := hd.wlt s hs
      obtain ⟨m', hm'⟩ : ∃ q, ms[s]? = some q := ⟨_, List.getElem?_eq_getElem (by rw [hd.lms]; exact hsl)⟩
      have hne : s ≠ i := fun q => by subst q; rw [hSi] at hSs; cases hSs
      rcases hd.wnp s hs m' hm' i o (by omega) ho with (h3 | h3) | ⟨mj, lb, e', k1, k2, k3, k4⟩
      ·rw [hpure] at h3; cases h3
      ·have := hcl s hSs m' hm' i h3
       rw [hSi] at this; cases this
      ·rw [hm] at k1; cases k1
       exact ⟨lb, e', k2, k3, k4⟩
     split at heff
     ·rename_i lb hlb
      split at heff
      case h_2 => cases heff
      rename_i hfar
      have hfar := farW_ok hfar
      refine sim (fun l B hB => ?_) heff
      obtain ⟨rfl, hB⟩ := oneT_sub hB
      have hsame : look l (wrS es wi (fun j => listed.getD j false)) = look l (wrOf es ((wlt i wi).filter fun s => m.testBit s)) := by
       unfold wrS
       have gen : ∀ L : List Nat, (∀ s ∈ L, s ∈ wi) → look l (wrOf es (L.filter fun j => listed.getD j false)) = look l (wrOf es ((wlt i L).filter fun s => m.testBit s)) := by
        intro L
        induction L with
        | nil => intro _; rfl
        | cons s r ih =>
          intro hL
          have ih := ih (fun q hq => hL q (List.mem_cons_of_mem _ hq))
          have hs := hL s List.mem_cons_self
          have hsl := hd.wlt s hs
          obtain ⟨es', hes'⟩ : ∃ q, es[s]? = some q := ⟨_, List.getElem?_eq_getElem (by rw [hd.les]; exact hsl)⟩
          have put1 : look l es'.wr = none → look l (wrOf es (s :: r.filter fun j => listed.getD j false)) = look l (wrOf es (r.filter fun j => listed.getD j false)) := by
           intro hn
           simp only [wrOf, hes', look_append, hn]
          by_cases hsi : s < i
          ·have hb : Nat.blt s i = true := by simpa [Nat.blt_eq] using hsi
           simp only [wlt, hb]
           cases hms : m.testBit s with
           | true =>
             have hSs := hmS s hms
             rw [List.filter_cons, if_pos hSs, List.filter_cons, if_pos hms]
             simp only [wrOf, hes', look_append, ih]
           | false =>
             rw [List.filter_cons (p := fun s => m.testBit s), if_neg (by rw [hms]; simp), ← ih]
             cases hSs : listed.getD s false with
             | false => rw [List.filter_cons, if_neg (by rw [hSs]; simp)]
             | true =>
               rw [List.filter_cons, if_pos hSs]
               rcases hfar s (by rw [wlt_filter, List.mem_filter]; exact ⟨hs, hb⟩) with h4 | ⟨e', h4, h5⟩
               ·rw [hms] at h4; cases h4
               ·rw [hes'] at h4; cases h4; exact put1 h5
          ·have hb : Nat.blt s i = false := by
            cases hb : Nat.blt s i with
            | false => rfl
            | true => exact absurd (by simpa [Nat.blt_eq] using hb) hsi
           simp only [wlt, hb]
           rw [← ih]
           cases hSs : listed.getD s false with
           | false => rw [List.filter_cons, if_neg (by rw [hSs]; simp)]
           | true =>
             rw [List.filter_cons, if_pos hSs]
             obtain ⟨lb', e', k2, k3, k4⟩ := late s hs hSs hsi
             rw [hlb] at k3; cases k3
             rw [hes'] at k2; cases k2
             exact put1 k4
       exact gen wi (fun s hs => hs)
      have hB2 := TS_sub (S' := fun j => listed.getD j false) hmS hB
      unfold TS at hB2 ⊢
      rw [hsame]; exact hB2
     ·rename_i hnl
      split at heff
      case h_2 => cases heff
      rename_i hin
      refine sim (fun l B hB => ?_) heff
      have hB2 := TS_sub (S' := fun j => listed.getD j false) hmS hB
      have hwr : wrOf es (wlt i wi) = wrS es wi (fun j => listed.getD j false) := by
       unfold wrS
       rw [wlt_filter]
       congr 1
       refine List.filter_congr fun s hs => ?_
       by_cases hsi : s < i
       ·have hb : Nat.blt s i = true := by simpa [Nat.blt_eq] using hsi
        rw [hb]
        exact (hmS s (inM_ok hin s (by rw [wlt_filter, List.mem_filter]; exact ⟨hs, hb⟩))).symm
       ·have hb : Nat.blt s i = false := by
         cases hb : Nat.blt s i with
         | false => rfl
         | true => exact absurd (by simpa [Nat.blt_eq] using hb) hsi
        rw [hb]
        cases hSs : listed.getD s false with
        | false => rfl
        | true =>
          obtain ⟨lb', e', k2, k3, k4⟩ := late s hs hSs hsi
          rw [hnl] at k3; cases k3
      rw [← hwr]
      exact hB2
   ·cases heff
end
end Go.Proofs.YtjomfjihopegmaaGreatDoor.Sx
end
