/- The symbolic executor (texts 9 to 17 of 28): plain laws on what operations of the model do to a table of blocks; no program in sight. -/
import Derived.Test.YtaibhjpgbckbkaaGreatDoorSxA
import Derived.Laws.AppendOwnNone
import Derived.Deep.AppendSrc
import Derived.IntWalk
import Derived.Defers
import Derived.LaidEql
import Derived.ChangeKeysEq
/- The symbolic executor, ninth text: rows of integers, copies, appends, literals laid out. -/
open Go
namespace Go.Proofs.YtaibhjpgbckbkaaGreatDoor.Sx

section Ops
variable {P : Program} {Γ : Env} {V : Val} {w w0 : World} {M : Nat → Prop} {T : Tab} {g : Nat → Option SV} {a : Act} {o : Oper} {e : Eff}

/-- What a slice holds, as integers of a kind; what is owed for that. -/
def seqI (T : Tab) (k : IntKind) : SV → Option (List Prop × List Int)
  | .slc l s off len _ => match T l with
    | some (.ints k2 xs _) => match decide (k = k2) with
      | true => some ([off + len ≤ xs.length], (xs.drop off).take len)
      | false => none
    | some (.roi k2 xs) => match decide (k = k2) with
      | true => some ([off + len ≤ xs.length], (xs.drop off).take len)
      | false => none
    | some B => match rdB B s off len with
      | some (ob, r) => (intsK k r).map fun ns => (ob, ns)
      | none => none
    | none => none
  | .buf l => match T l with
    | some (.rowi k2 xs _) => match decide (k = k2) with
      | true => some ([], xs)
      | false => none
    | _ => none
  | .bslc l lo hi => match T l with
    | some (.rowi k2 xs _) => match decide (k = k2) with
      | true => some ([lo ≤ hi ∧ hi ≤ xs.length], (xs.drop lo).take (hi - lo))
      | false => none
    | _ => none
  | .raw (.slice none 0 0) => some ([], [])
  | _ => none

/-- A slice's value and its cells, in a world. -/
def Holds (w : World) (x : Value) (cs : List Value) : Prop :=
  (x = .slice none 0 0 ∧ cs = []) ∨ ∃ ad c, x = .slice (some ad) cs.length c ∧ ∀ (j : Nat) (u : Value), cs[j]? = some u → w.cell? (ad.add j) = some u

theorem seqI_ok {k : IntKind} {v : SV} {x : Value} {ob : List Prop} {ys : List Int} (hT : TabOK w0 M V T w) (hv : den V v = some x) (h : seqI T k v = some (ob, ys)) (ho : ∀ q ∈ ob, q) :
    Holds w x (ys.map (Value.int k)) := by
  have rd : ∀ (l : Nat) (B : SB) (s : Bool) (off len c : Nat) (r : List SV) (p : Nat × Nat), T l = some B → V.β l = some p → rdB B s off len = some (ob, r) → denL V r = some (ys.map (Value.int k)) →
      Holds w (.slice (some ⟨p.1, p.2 + off, none⟩) len c) (ys.map (Value.int k)) := by
    intro l B s off len c r p hB hβ hr hd
    obtain ⟨xs, h1, h2, h3⟩ := rdB_ok (hT.ok l B hB) (b := p.1) (o := p.2) hβ hr ho
    rw [hd] at h1
    cases h1
    exact .inr ⟨_, c, by rw [h2], fun j u hj => by rw [add_addr]; exact h3 j u hj⟩
  have rint : ∀ (l : Nat) (B : SB) (xs : List Int) (off len c : Nat) (p : Nat × Nat), (B = .ints k xs (match B with | .ints _ _ ty => ty | _ => 0) ∨ B = .roi k xs) → T l = some B → V.β l = some p → off + len ≤ xs.length → ys = (xs.drop off).take len →
      Holds w (.slice (some ⟨p.1, p.2 + off, none⟩) len c) (ys.map (Value.int k)) := by
    intro l B xs off len c p hBk hB hβ hle hys
    have hr : rdB B false off len = some ([off + len ≤ xs.length], (List.range len).map fun j => .int false k (xs.getD (off + j) 0)) := by
      rcases hBk with e | e <;> rw [e] <;> rfl
    obtain ⟨zs, h1, h2, h3⟩ := rdB_ok (hT.ok l B hB) (b := p.1) (o := p.2) hβ hr (by intro q hq; simp only [List.mem_singleton] at hq; subst hq; exact hle)
    have hd := denL_map_range (V := V) len (fun j => .int false k (xs.getD (off + j) 0)) (fun j => .int k (xs.getD (off + j) 0)) (fun j _ => rfl)
    rw [hd] at h1
    cases h1
    have e : (List.range len).map (fun j => Value.int k (xs.getD (off + j) 0)) = ys.map (Value.int k) := by
      subst hys
      apply List.ext_getElem
      · simp; omega
      · intro j h4 h5
        simp only [List.length_map, List.length_range] at h4
        have h6 : off + j < xs.length := by omega
        simp [List.getD_eq_getElem?_getD, h6]
    rw [e] at h3
    have hlen : len = (ys.map (Value.int k)).length := by rw [← e]; simp
    exact .inr ⟨_, c, by rw [← hlen], fun j u hj => by rw [add_addr]; exact h3 j u hj⟩
  unfold seqI at h
  split at h
  · rename_i l s off len c
    simp only [den, Option.map_eq_some_iff] at hv
    obtain ⟨p, hβ, rfl⟩ := hv
    split at h
    · rename_i k2 xs ty hB
      split at h
      · rename_i hd
        have := of_decide_eq_true hd
        subst this
        simp only [Option.some.injEq, Prod.mk.injEq] at h
        obtain ⟨rfl, rfl⟩ := h
        exact rint l _ xs off len c p (.inl rfl) hB hβ (ho _ (by simp)) rfl
      · cases h
    · rename_i k2 xs hB
      split at h
      · rename_i hd
        have := of_decide_eq_true hd
        subst this
        simp only [Option.some.injEq, Prod.mk.injEq] at h
        obtain ⟨rfl, rfl⟩ := h
        exact rint l _ xs off len c p (.inr rfl) hB hβ (ho _ (by simp)) rfl
      · cases h
    · rename_i B _ _ hB
      split at h
      · rename_i ob' r hr
        simp only [Option.map_eq_some_iff, Prod.mk.injEq] at h
        obtain ⟨ns, hns, rfl, rfl⟩ := h
        exact rd l B s off len c r p hB hβ hr (intsK_ok hns)
      · cases h
    · cases h
  · rename_i l
    split at h
    · rename_i k2 xs ty hB
      split at h
      · rename_i hd
        have := of_decide_eq_true hd
        subst this
        simp only [Option.some.injEq, Prod.mk.injEq] at h
        obtain ⟨rfl, rfl⟩ := h
        obtain ⟨cs, hc, u, hσ, hrow⟩ := hT.ok l _ hB
        simp only [SB.cells, Option.some.injEq] at hc
        subst hc
        simp only [den, hσ, Option.some.injEq] at hv
        subst hv
        rcases hrow.2 with ⟨rfl, h0⟩ | ⟨gb, cap, cur, rfl, _, hh, _, _, _, htake⟩
        · have : xs = [] := List.eq_nil_of_length_eq_zero h0
          subst this
          exact .inl ⟨rfl, rfl⟩
        · refine .inr ⟨⟨gb, 0, none⟩, cap, by simp, fun j u hj => ?_⟩
          rw [add_addr, cell_of_row w gb _ _ _ _ hh]
          rw [← htake, List.getElem?_take] at hj
          split at hj
          · simpa using hj
          · cases hj
      · cases h
    · cases h
  · rename_i l lo hi
    split at h
    · rename_i k2 xs ty hB
      split at h
      · rename_i hd
        have := of_decide_eq_true hd
        subst this
        simp only [Option.some.injEq, Prod.mk.injEq] at h
        obtain ⟨rfl, rfl⟩ := h
        have hb : lo ≤ hi ∧ hi ≤ xs.length := ho _ (by simp)
        obtain ⟨cs, hc, u, hσ, hrow⟩ := hT.ok l _ hB
        simp only [SB.cells, Option.some.injEq] at hc
        subst hc
        simp only [den, hσ] at hv
        rcases hrow.2 with ⟨rfl, h0⟩ | ⟨gb, cap, cur, rfl, _, hh, hle, _, _, htake⟩
        · have : xs = [] := List.eq_nil_of_length_eq_zero h0
          subst this
          simp only [Option.some.injEq] at hv
          have e1 : lo = 0 ∧ hi = 0 := by simp at hb; omega
          obtain ⟨rfl, rfl⟩ := e1
          left
          refine ⟨by rw [← hv]; simp, by simp⟩
        · simp only [Option.some.injEq] at hv
          right
          have hlen : ((((xs.drop lo).take (hi - lo)).map (Value.int k)).length) = hi - lo := by simp; omega
          by_cases hcl : cap = lo
          · rw [if_pos hcl] at hv
            have h0 : hi - lo = 0 := by omega
            refine ⟨_, cap - lo, by rw [hlen]; exact hv.symm, fun j u hj => ?_⟩
            rw [h0] at hj
            simp at hj
          · rw [if_neg hcl] at hv
            refine ⟨_, cap - lo, by rw [hlen]; exact hv.symm, fun j u hj => ?_⟩
            show w.cell? (((⟨gb, 0, none⟩ : Addr).add lo).add j) = some u
            rw [add_addr, add_addr, cell_of_row w gb _ _ _ _ hh]
            have h5 : (xs.map (Value.int k))[lo + j]? = some u := by
              simp only [List.map_take, List.map_drop, List.getElem?_take] at hj
              split at hj
              · rwa [List.getElem?_drop] at hj
              · cases hj
            rw [← htake, List.getElem?_take] at h5
            split at h5
            · simpa using h5
            · cases h5
      · cases h
    · cases h
  · simp only [Option.some.injEq, Prod.mk.injEq] at h
    obtain ⟨rfl, rfl⟩ := h
    simp only [den, Option.some.injEq] at hv
    exact .inl ⟨hv.symm, rfl⟩
  · cases h

end Ops
end Go.Proofs.YtaibhjpgbckbkaaGreatDoor.Sx

/- The symbolic executor, tenth text: append, copy, literals of structs, arrays and slices. -/
open Go
namespace Go.Proofs.YtaibhjpgbckbkaaGreatDoor.Sx

section Ops
variable {P : Program} {Γ : Env} {V : Val} {w w0 : World} {M : Nat → Prop} {T : Tab} {g : Nat → Option SV} {a : Act} {o : Oper} {e : Eff}

/-- Where the result of an append lies. -/
theorem append_blk {t ty el : TypeId} {i : TypeInfo} {z : Value} {v v' x : Value} {w' : World} {n : Nat} {xs news : List Value} (ht : P.underlying t = some (.slice el)) (hi : P.info? el = some i) (hz : i.zero = some z)
    (hown : w.ownsRow 0 el i.size v n xs) {ad : Addr} {m c : Nat} (hx : x = .slice (some ad) m c) (hl : news.length = m * i.size) (hnews : ∀ (j : Nat) (u : Value), news[j]? = some u → w.cell? (ad.add j) = some u)
    (h1 : ∀ u ∈ news, u.oneCell' = true) (h63 : n + m ≤ maxLen) (hbytes : (n + m) * i.bytes ≤ 140737488355328)
    (hr : (Builtin.append_ #[t, t] ty #[v, x]).run P w = .ok v' w') : v'.ownBlock = v.ownBlock ∨ v'.ownBlock = some w.heap.size := by
  subst hx
  have hsmall : n + m ≤ 9223372036854775807 := by simp only [maxLen] at h63; omega
  rcases hown.2 with ⟨rfl, rfl⟩ | ⟨gb, cap, cur, rfl, _, hg, hnc, hcm, hcs, htake⟩
  · by_cases hm : m = 0
    · subst hm
      have hn : news = [] := List.eq_nil_of_length_eq_zero (by simpa using hl)
      subst hn
      have : (Builtin.append_ #[t, t] ty #[.slice none 0 0, .slice (some ad) 0 c]).run P w = .ok (.slice none 0 0) w := by
        simp [Builtin.append_, run_underlying ht, sizeOf, typeInfo, hi, Builtin.lenOf, Builtin.firstCells, loadCells, loadCellsFrom]
      rw [this] at hr
      cases hr
      exact .inl rfl
    · rw [run_append_nil (P := P) w t ty el i z ht hi hz ad m c news hl hnews (by omega) (by omega) (by simp only [Nat.zero_add] at hbytes; omega)] at hr
      cases hr
      exact .inr rfl
  · by_cases hroom : n + m ≤ cap
    · rw [run_append_room (P := P) w t ty el i ht hi gb n cap cur hg ad m c news hl hnews h1 hroom (by rw [hl, hcs, ← Nat.add_mul]; exact Nat.mul_le_mul_right _ hroom)] at hr
      cases hr
      exact .inl rfl
    · have holds : ∀ (j : Nat) (u : Value), xs[j]? = some u → w.cell? ((⟨gb, 0, none⟩ : Addr).add j) = some u := fun j u hj => by
        rw [add_addr, cell_of_row w gb _ _ _ _ hg]
        rw [← htake, List.getElem?_take] at hj
        split at hj
        · simpa using hj
        · cases hj
      rw [run_append_grow (P := P) w t ty el i z ht hi hz ⟨gb, 0, none⟩ n cap xs hown.1 holds ad m c news hl hnews (by omega) (by omega) (growslice_fits (by omega) hbytes)] at hr
      cases hr
      exact .inr rfl

/-- What integers are appended to: the label that is given up, if any; what is owed; the integers. -/
def destI (T : Tab) (k : IntKind) (el : TypeId) : SV → Option (Option Nat × List Prop × List Int)
  | .raw (.slice none 0 0) => some (none, [], [])
  | .buf l => match T l with
    | some (.rowi k2 xs ty) => match decide (k2 = k), Nat.beq ty el with
      | true, true => some (some l, [], xs)
      | _, _ => none
    | _ => none
  | .slc l s 0 len cap => match T l with
    | some (.ints k2 xs ty) => match decide (k2 = k), Nat.beq ty el with
      | true, true => some (some l, [cap = xs.length ∧ len ≤ cap ∧ cap ≤ 9223372036854775807], xs.take len)
      | _, _ => none
    | some (.own cells ty) => match s, intsK k cells, Nat.beq ty el with
      | true, some xs, true => match Nat.beq cap cells.length, Nat.ble len cap, Nat.ble cap 9223372036854775807 with
        | true, true, true => some (some l, [], xs.take len)
        | _, _, _ => none
      | _, _, _ => none
    | _ => none
  | _ => none

theorem destI_ok {k : IntKind} {el : TypeId} {v : SV} {x : Value} {lo : Option Nat} {ob : List Prop} {xs : List Int} (hT : TabOK w0 M V T w) (hv : den V v = some x) (h : destI T k el v = some (lo, ob, xs)) (ho : ∀ q ∈ ob, q) :
    w.ownsRow 0 el 1 x xs.length (xs.map (Value.int k)) ∧ (lo = none → x.ownBlock = none) ∧ ∀ l, lo = some l → ∃ B, T l = some B ∧ B.owned = true ∧ ∀ n, x.ownBlock = some n → B.blk V l = some n := by
  have full : ∀ (l : Nat) (B : SB) (ys : List Int) (len cap : Nat), T l = some B → B.owned = true → V.β l ≠ none → (∃ b, V.β l = some (b, 0) ∧ B.blk V l = some b ∧ w.heap[b]? = some (.cells (ys.map (Value.int k)).toArray el (0, 0))) → cap = ys.length → len ≤ cap → cap ≤ 9223372036854775807 →
      den V (.slc l true 0 len cap) = some x → w.ownsRow 0 el 1 x (ys.take len).length ((ys.take len).map (Value.int k)) ∧ ∃ B, T l = some B ∧ B.owned = true ∧ ∀ n, x.ownBlock = some n → B.blk V l = some n := by
    intro l B ys len cap hB hown _ ⟨b, hβ, hblk, hh⟩ hcap hle hmax hd
    simp only [den, hβ, Option.map_some, Option.some.injEq, Nat.add_zero] at hd
    subst hd
    have hlen : (ys.take len).length = len := by simp; omega
    refine ⟨⟨by simp, .inr ⟨b, cap, _, by rw [hlen], Nat.zero_le _, hh, by omega, by simp only [maxLen]; omega, by simp [hcap], by rw [hlen]; simp [List.map_take]⟩⟩, B, hB, hown, fun n hn => ?_⟩
    simp only [Value.ownBlock, Option.some.injEq] at hn
    subst hn
    exact hblk
  unfold destI at h
  split at h
  · simp only [Option.some.injEq, Prod.mk.injEq] at h
    obtain ⟨rfl, rfl, rfl⟩ := h
    simp only [den, Option.some.injEq] at hv
    subst hv
    exact ⟨World.ownsRow_nil w 0 el 1, fun _ => rfl, fun l hl => (by cases hl)⟩
  · rename_i l
    split at h
    · rename_i k2 ys ty hB
      split at h
      · rename_i h1 h2
        have := of_decide_eq_true h1
        subst this
        have := Nat.eq_of_beq_eq_true h2
        subst this
        simp only [Option.some.injEq, Prod.mk.injEq] at h
        obtain ⟨rfl, rfl, rfl⟩ := h
        obtain ⟨cs, hc, u, hσ, hrow⟩ := hT.ok l _ hB
        simp only [SB.cells, Option.some.injEq] at hc
        subst hc
        simp only [den, hσ, Option.some.injEq] at hv
        subst hv
        refine ⟨hrow, fun h => (by cases h), fun l' hl' => ?_⟩
        cases hl'
        exact ⟨_, hB, rfl, fun n hn => by simp [SB.blk, hσ, hn]⟩
      · cases h
    · cases h
  · rename_i l s len cap
    have hv' : den V (.slc l true 0 len cap) = some x := hv
    split at h
    · rename_i k2 ys ty hB
      split at h
      · rename_i h1 h2
        have := of_decide_eq_true h1
        subst this
        have := Nat.eq_of_beq_eq_true h2
        subst this
        simp only [Option.some.injEq, Prod.mk.injEq] at h
        obtain ⟨rfl, rfl, rfl⟩ := h
        obtain ⟨hcap, hle, hmax⟩ : cap = ys.length ∧ len ≤ cap ∧ cap ≤ 9223372036854775807 := ho _ (by simp)
        obtain ⟨cs, hc, b, hβ, hh⟩ := hT.ok l _ hB
        simp only [SB.cells, Option.some.injEq] at hc
        subst hc
        obtain ⟨r1, r2⟩ := full l _ ys len cap hB rfl (by rw [hβ]; simp) ⟨b, hβ, by simp [SB.blk, hβ], hh⟩ hcap hle hmax hv'
        exact ⟨r1, fun h => (by cases h), fun l' hl' => (by cases hl'; exact r2)⟩
      · cases h
    · rename_i cells ty hB
      split at h
      · rename_i ys hys h2
        have := Nat.eq_of_beq_eq_true h2
        subst this
        split at h
        · rename_i h3 h4 h5
          simp only [Option.some.injEq, Prod.mk.injEq] at h
          obtain ⟨rfl, rfl, rfl⟩ := h
          obtain ⟨cs, hc, b, hβ, hh⟩ := hT.ok l _ hB
          have hc2 := intsK_ok (V := V) hys
          rw [show SB.cells V (.own cells ty) = denL V cells from rfl, hc2] at hc
          cases hc
          have hl2 := denL_length hc2
          obtain ⟨r1, r2⟩ := full l _ ys len cap hB rfl (by rw [hβ]; simp) ⟨b, hβ, by simp [SB.blk, hβ], hh⟩ (by rw [Nat.eq_of_beq_eq_true h3]; simpa using hl2.symm) (Nat.le_of_ble_eq_true h4) (Nat.le_of_ble_eq_true h5) hv'
          exact ⟨r1, fun h => (by cases h), fun l' hl' => (by cases hl'; exact r2)⟩
        · cases h
      · cases h
    · cases h
  · cases h

def goneL : Option Nat → List (Nat × SB)
  | some l => [(l, .gone)]
  | none => []

/-- A slice has grown. -/
theorem TabOK.append (h : TabOK w0 M V T w) {lab : Nat} (hf : V.fresh lab) {w' : World} {v v' : Value} {lo : Option Nat} {B : SB} {cs : List Value} {el : TypeId} {sz n : Nat}
    (hB : ∃ k xs, B = .rowi k xs el ∧ sz = 1 ∧ n = xs.length) (hc : B.cells V = some cs) (hrow : w'.ownsRow 0 el sz v' n cs) (hgr : w.grownBy w' v.ownBlock)
    (hblk : v'.ownBlock = v.ownBlock ∨ v'.ownBlock = some w.heap.size) (hnone : lo = none → v.ownBlock = none)
    (hlo : ∀ l, lo = some l → ∃ B, T l = some B ∧ B.owned = true ∧ ∀ n, v.ownBlock = some n → B.blk V l = some n) (rv : SV) (ob : List Prop) :
    TabOK w0 M (V.putσ lab v') (upd T lab { obl := ob, val := rv, new := [B], wr := goneL lo }) w' := by
  have hext := Val.putσ_ext hf lab (Nat.le_refl _) (by omega) v'
  have hput : (V.putσ lab v').σ lab = some v' := by simp [Val.putσ]
  have hlab : ∀ l, lo = some l → l ≠ lab := by
    intro l hl e
    subst e
    obtain ⟨B1, h1, h2, _⟩ := hlo l hl
    rcases h.known h1 (by rintro rfl; cases h2) with h3 | h3
    · exact h3 (hf l (Nat.le_refl _) (by omega)).1
    · exact h3 (hf l (Nat.le_refl _) (by omega)).2
  have hvold : ∀ n, v.ownBlock = some n → ∃ l B0, lo = some l ∧ T l = some B0 ∧ B0.owned = true ∧ B0.blk V l = some n := by
    intro n hn
    cases hlo' : lo with
    | none => rw [hnone hlo'] at hn; cases hn
    | some l => obtain ⟨B1, h1, h2, h3⟩ := hlo l hlo'; exact ⟨l, B1, rfl, h1, h2, h3 n hn⟩
  refine h.step (N := fun k => if k = lab then some B else if lo = some k then some .gone else none) hext.1 (fun k C hk => ?_) (fun k C hk => ?_) (fun k C n hk hb => ?_) (fun k C k' C' n hne hk hk' hown hb => ?_) hgr.size (fun n hn hx => ?_) hgr.os hgr.tape hgr.output
  · have hk2 : look k (goneL lo ++ [(lab, B)]) = some C ∨ (look k (goneL lo ++ [(lab, B)]) = none ∧ T k = some C) := by
      unfold upd Eff.tab at hk
      simp only [newL] at hk
      split at hk
      · rename_i C' hC; cases hk; exact .inl hC
      · rename_i hC; exact .inr ⟨hC, hk⟩
    rw [look_append] at hk2
    by_cases e : k = lab
    · subst e
      left
      have h0 : look k (goneL lo) = none := by
        cases hlo' : lo with
        | none => rfl
        | some l => simp only [goneL]; rw [look_cons_ne (hlab l hlo')]; rfl
      rw [h0] at hk2
      simp only [look_cons_eq] at hk2
      rcases hk2 with hk2 | ⟨hk2, _⟩
      · simpa using hk2
      · cases hk2
    · have h0 : look k [(lab, B)] = none := by rw [look_cons_ne (fun x => e x.symm)]; rfl
      rw [h0] at hk2
      cases hlo' : lo with
      | none =>
        rw [hlo'] at hk2
        simp only [goneL, look] at hk2
        rcases hk2 with hk2 | ⟨_, hk2⟩
        · cases hk2
        · right; exact ⟨by simp [e], hk2⟩
      | some l =>
        rw [hlo'] at hk2
        simp only [goneL] at hk2
        by_cases e2 : l = k
        · subst e2
          rw [look_cons_eq] at hk2
          rcases hk2 with hk2 | ⟨hk2, _⟩
          · left; simp only [Option.some.injEq] at hk2; subst hk2; simp [e]
          · cases hk2
        · rw [look_cons_ne e2] at hk2
          simp only [look] at hk2
          rcases hk2 with hk2 | ⟨_, hk2⟩
          · cases hk2
          · right; exact ⟨by simp [e, e2], hk2⟩
  · by_cases e : k = lab
    · subst e
      simp only [if_true, Option.some.injEq] at hk
      subst hk
      refine ⟨cs, SB.cells_mono hext.1 hc, ?_⟩
      obtain ⟨kk, xs, rfl, rfl, rfl⟩ := hB
      exact ⟨v', hput, hrow⟩
    · simp only [e, if_false] at hk
      split at hk
      · cases hk; exact ⟨[], rfl, trivial⟩
      · cases hk
  · by_cases e : k = lab
    · subst e
      simp only [if_true, Option.some.injEq] at hk
      subst hk
      have hb' : v'.ownBlock = some n := by
        obtain ⟨kk, xs, rfl, _⟩ := hB
        simpa [SB.blk, hput] using hb
      rcases hblk with hb2 | hb2
      · rw [hb2] at hb'
        obtain ⟨l, B0, h0, h1, h2, h3⟩ := hvold n hb'
        exact .inr (.inl ⟨l, B0, h1, h2, h3, by simp [hlab l h0, h0]⟩)
      · rw [hb2] at hb'; cases hb'; exact .inl (Nat.le_refl _)
    · simp only [e, if_false] at hk
      split at hk
      · cases hk; simp [SB.blk] at hb
      · cases hk
  · by_cases e : k = lab
    · subst e
      have e' : k' ≠ k := fun x => hne x.symm
      simp only [e', if_false] at hk'
      split at hk'
      · cases hk'; simp [SB.blk]
      · cases hk'
    · simp only [e, if_false] at hk
      split at hk
      · cases hk; cases hown
      · cases hk
  · refine hgr.block n hn fun e => ?_
    obtain ⟨l, B0, h0, h1, h2, h3⟩ := hvold n e.symm
    exact hx l B0 h1 h2 (by simp [hlab l h0, h0]) h3

/-- A slice has grown, and is not nil: its block by its cells. -/
theorem TabOK.appendR (h : TabOK w0 M V T w) {lab : Nat} (hf : V.fresh lab) {w' : World} {v' : Value} {own : Option Nat} {lo : Option Nat} {cells : List SV} {cs : List Value} {el : TypeId} {sz nn : Nat}
    (hc : denL V cells = some cs) (hrow : w'.ownsRow 0 el sz v' nn cs) (hnil : v' ≠ .slice none 0 0) (hgr : w.grownBy w' own)
    (hblk : v'.ownBlock = own ∨ v'.ownBlock = some w.heap.size) (hnone : lo = none → own = none)
    (hlo : ∀ l, lo = some l → ∃ B, T l = some B ∧ B.owned = true ∧ ∀ n, own = some n → B.blk V l = some n) (rv : SV) (ob : List Prop) :
    ∃ b cap, v' = .slice (some ⟨b, 0, none⟩) nn cap ∧ TabOK w0 M (V.put2 lab (b, 0) (.int .i64 (cap : Nat))) (upd T lab { obl := ob, val := rv, new := [.row sz cells el], wr := goneL lo }) w' := by
  obtain ⟨b, cap, cur, rfl, _, hheap, hncap, hcm, hcs, htake⟩ := hrow.2.resolve_left (fun q => hnil q.1)
  refine ⟨b, cap, rfl, ?_⟩
  have hext := Val.put2_ext hf lab (Nat.le_refl _) (by omega) (b, 0) (.int .i64 (cap : Nat))
  have hput : (V.put2 lab (b, 0) (.int .i64 (cap : Nat))).β lab = some (b, 0) := by simp [Val.put2, Val.put, Val.putσ]
  have hputσ : (V.put2 lab (b, 0) (.int .i64 (cap : Nat))).σ lab = some (.int .i64 (cap : Nat)) := by simp [Val.put2, Val.put, Val.putσ]
  have hlab : ∀ l, lo = some l → l ≠ lab := by
    intro l hl e
    subst e
    obtain ⟨B1, h1, h2, _⟩ := hlo l hl
    rcases h.known h1 (by rintro rfl; cases h2) with h3 | h3
    · exact h3 (hf l (Nat.le_refl _) (by omega)).1
    · exact h3 (hf l (Nat.le_refl _) (by omega)).2
  have hvold : ∀ n, own = some n → ∃ l B0, lo = some l ∧ T l = some B0 ∧ B0.owned = true ∧ B0.blk V l = some n := by
    intro n hn
    cases hlo' : lo with
    | none => rw [hnone hlo'] at hn; cases hn
    | some l => obtain ⟨B1, h1, h2, h3⟩ := hlo l hlo'; exact ⟨l, B1, rfl, h1, h2, h3 n hn⟩
  refine h.step (N := fun k => if k = lab then some (.row sz cells el) else if lo = some k then some .gone else none) hext.1 (fun k C hk => ?_) (fun k C hk => ?_) (fun k C n hk hb => ?_) (fun k C k' C' n hne hk hk' hown hb => ?_) hgr.size (fun n hn hx => ?_) hgr.os hgr.tape hgr.output
  · have hk2 : look k (goneL lo ++ [(lab, SB.row sz cells el)]) = some C ∨ (look k (goneL lo ++ [(lab, SB.row sz cells el)]) = none ∧ T k = some C) := by
      unfold upd Eff.tab at hk
      simp only [newL] at hk
      split at hk
      · rename_i C' hC; cases hk; exact .inl hC
      · rename_i hC; exact .inr ⟨hC, hk⟩
    rw [look_append] at hk2
    by_cases e : k = lab
    · subst e
      left
      have h0 : look k (goneL lo) = none := by
        cases hlo' : lo with
        | none => rfl
        | some l => simp only [goneL]; rw [look_cons_ne (hlab l hlo')]; rfl
      rw [h0] at hk2
      simp only [look_cons_eq] at hk2
      rcases hk2 with hk2 | ⟨hk2, _⟩
      · simpa using hk2
      · cases hk2
    · have h0 : look k [(lab, SB.row sz cells el)] = none := by rw [look_cons_ne (fun x => e x.symm)]; rfl
      rw [h0] at hk2
      cases hlo' : lo with
      | none =>
        rw [hlo'] at hk2
        simp only [goneL, look] at hk2
        rcases hk2 with hk2 | ⟨_, hk2⟩
        · cases hk2
        · right; exact ⟨by simp [e], hk2⟩
      | some l =>
        rw [hlo'] at hk2
        simp only [goneL] at hk2
        by_cases e2 : l = k
        · subst e2
          rw [look_cons_eq] at hk2
          rcases hk2 with hk2 | ⟨hk2, _⟩
          · left; simp only [Option.some.injEq] at hk2; subst hk2; simp [e]
          · cases hk2
        · rw [look_cons_ne e2] at hk2
          simp only [look] at hk2
          rcases hk2 with hk2 | ⟨_, hk2⟩
          · cases hk2
          · right; exact ⟨by simp [e, e2], hk2⟩
  · by_cases e : k = lab
    · subst e
      simp only [if_true, Option.some.injEq] at hk
      subst hk
      refine ⟨cs, denL_mono hext.1 hc, b, cap, cur, hput, hputσ, hheap, hcm, hcs, ⟨nn, hrow.1, hncap⟩, ?_⟩
      rw [hrow.1]; exact htake
    · simp only [e, if_false] at hk
      split at hk
      · cases hk; exact ⟨[], rfl, trivial⟩
      · cases hk
  · by_cases e : k = lab
    · subst e
      simp only [if_true, Option.some.injEq] at hk
      subst hk
      have hb' : (Value.slice (some ⟨b, 0, none⟩) nn cap).ownBlock = some n := by
        simpa [SB.blk, hput, Value.ownBlock] using hb
      rcases hblk with hb2 | hb2
      · rw [hb2] at hb'
        obtain ⟨l, B0, h0, h1, h2, h3⟩ := hvold n hb'
        exact .inr (.inl ⟨l, B0, h1, h2, h3, by simp [hlab l h0, h0]⟩)
      · rw [hb2] at hb'; cases hb'; exact .inl (Nat.le_refl _)
    · simp only [e, if_false] at hk
      split at hk
      · cases hk; simp [SB.blk] at hb
      · cases hk
  · by_cases e : k = lab
    · subst e
      have e' : k' ≠ k := fun x => hne x.symm
      simp only [e', if_false] at hk'
      split at hk'
      · cases hk'; simp [SB.blk]
      · cases hk'
    · simp only [e, if_false] at hk
      split at hk
      · cases hk; cases hown
      · cases hk
  · refine hgr.block n hn fun e => ?_
    obtain ⟨l, B0, h0, h1, h2, h3⟩ := hvold n e.symm
    exact hx l B0 h1 h2 (by simp [hlab l h0, h0]) h3

end Ops
end Go.Proofs.YtaibhjpgbckbkaaGreatDoor.Sx

/- The symbolic executor, eleventh text: builtins, literals, calls of functions; one operation, whichever it is. -/
open Go
namespace Go.Proofs.YtaibhjpgbckbkaaGreatDoor.Sx

section Ops
variable {P : Program} {Γ : Env} {V : Val} {w w0 : World} {M : Nat → Prop} {T : Tab} {g : Nat → Option SV} {a : Act} {o : Oper} {e : Eff}

/-- A builtin does what its effect says. -/
def SimV (P : Program) (w0 : World) (M : Nat → Prop) (V : Val) (T : Tab) (lab : Nat) (e : Eff) (s : Sem Value) (w : World) : Prop :=
  ∃ V' x w', s.run P w = .ok x w' ∧ V.ext lab V' ∧ den V' e.val = some x ∧ TabOK w0 M V' (upd T lab e) w'

theorem simV_pure {lab : Nat} {s : Sem Value} (h : ∃ x, s.run P w = .ok x w ∧ den V e.val = some x ∧ e.new = [] ∧ e.wr = []) (hT : TabOK w0 M V T w) : SimV P w0 M V T lab e s w := by
  obtain ⟨x, h1, h2, h3, h4⟩ := h
  exact ⟨V, x, w, h1, V.ext_refl lab, h2, by rw [upd_none T lab h3 h4]; exact hT⟩

theorem TabOK.sub {T' : Tab} (h : TabOK w0 M V T w) (hsub : ∀ l B, T' l = some B → T l = some B) : TabOK w0 M V T' w :=
  ⟨fun l B hl => h.ok l B (hsub l B hl), fun l B l' B' n hne hl hl' => h.dist l B l' B' n hne (hsub l B hl) (hsub l' B' hl'), fun l B n hl => h.perm l B n (hsub l B hl), h.frame⟩

def intD : TypeDesc → Option IntKind
  | .int k => some k
  | _ => none

/-- Integers appended. -/
def eAppI (T : Tab) (te : TI) (el : TypeId) (lab : Nat) (x y : SV) : Option Eff :=
  match intD te.desc, Nat.beq te.size 1, Nat.blt 0 te.bytes && Nat.beq te.zero.length 1 with
  | some k, true, true => match destI T k el x, seqI T k y with
    | some (lo, o1, xs), some (o2, ys) => some { obl := [(xs.length + ys.length) * te.bytes ≤ 140737488355328] ++ o1 ++ o2, val := .buf lab, new := [.rowi k (xs ++ ys) el], wr := goneL lo }
    | _, _ => none
  | _, _, _ => none

theorem eAppI_ok (hty : TyOK P Γ) {T' : Tab} (hsub : ∀ l B, T' l = some B → T l = some B) (hT : TabOK w0 M V T w) {lab : Nat} (hf : V.fresh lab) {t ty el : TypeId} {te : TI} (ht : P.underlying t = some (.slice el)) (hte : Γ.ty el = some te)
    {x y : SV} {u v : Value} (hx : den V x = some u) (hy : den V y = some v) (he : eAppI T' te el lab x y = some e) (ho : ∀ q ∈ e.obl, q) : SimV P w0 M V T lab e (Builtin.append_ #[t, t] ty #[u, v]) w := by
  unfold eAppI at he
  split at he
  · rename_i k hk hsz hby
    split at he
    · rename_i lo o1 xs o2 ys h1 h2
      simp only [Option.some.injEq] at he
      subst he
      obtain ⟨_, i, z, hi, hisz, hiby, hz, hzero⟩ := hty el te hte
      have hs1 : i.size = 1 := by rw [hisz]; exact Nat.eq_of_beq_eq_true hsz
      simp only [Bool.and_eq_true] at hby
      have hb1 : 0 < te.bytes := by simpa [Nat.blt_eq] using hby.1
      have hbound : (xs.length + ys.length) * te.bytes ≤ 140737488355328 := ho _ (by simp)
      have hd := destI_ok (hT.sub hsub) hx h1 (fun q hq => ho q (by simp [hq]))
      have hh := seqI_ok (hT.sub hsub) hy h2 (fun q hq => ho q (by simp [hq]))
      obtain ⟨hrow, hnone, hlo⟩ := hd
      have hlo' : ∀ l, lo = some l → ∃ B, T l = some B ∧ B.owned = true ∧ ∀ n, u.ownBlock = some n → B.blk V l = some n := fun l hl => by
        obtain ⟨B, h1, h2, h3⟩ := hlo l hl; exact ⟨B, hsub l B h1, h2, h3⟩
      have hn63 : xs.length + ys.length ≤ maxLen := by
        have := Nat.le_mul_of_pos_right (xs.length + ys.length) hb1
        simp only [maxLen]; omega
      have hzs : z.cells.size = 1 := by
        have h1 := denL_length (hzero V)
        have h2 := Nat.eq_of_beq_eq_true hby.2
        simpa [h2] using h1
      rcases hh with ⟨rfl, hys⟩ | ⟨ad, c, rfl, hcells⟩
      · have : ys = [] := by simpa using hys
        subst this
        have hr := run_append_owned_none (P := P) (w := w) 0 t ty el i 1 ht hi u xs.length _ hrow
        refine ⟨V.putσ lab u, u, w, hr, Val.putσ_ext hf lab (Nat.le_refl _) (by omega) u, by simp [den, Val.putσ], ?_⟩
        exact hT.append hf ⟨k, xs ++ [], rfl, rfl, rfl⟩ (show SB.cells V (.rowi k (xs ++ []) el) = some ((xs ++ []).map (Value.int k)) from rfl) (by simpa using hrow) ⟨rfl, rfl, rfl, Nat.le_refl _, fun _ _ _ => rfl⟩ (.inl rfl) hnone hlo' _ _
      · have hone : ∀ q ∈ ys.map (Value.int k), q.oneCell' = true := by
          intro q hq
          obtain ⟨n, _, rfl⟩ := List.mem_map.1 hq
          rfl
        have hl : (ys.map (Value.int k)).length = (ys.map (Value.int k)).length * i.size := by rw [hs1]; simp
        have hrow1 : w.ownsRow 0 el i.size u xs.length (xs.map (Value.int k)) := by rw [hs1]; exact hrow
        obtain ⟨v', w', hr, hrow', hgr, _⟩ := run_append_own (P := P) w 0 t ty el i z i.size i.bytes ht hi hz rfl rfl (by rw [hs1]; exact hzs) (by omega) u xs.length (xs.map (Value.int k)) hrow1 ad _ c _ hl hcells hone (by simpa using hn63) (by rw [hiby]; simpa using hbound) (Nat.zero_le _)
        have hblk := append_blk (P := P) ht hi hz hrow1 rfl hl hcells hone (by simpa using hn63) (by rw [hiby]; simpa using hbound) hr
        refine ⟨V.putσ lab v', v', w', hr, Val.putσ_ext hf lab (Nat.le_refl _) (by omega) v', by simp [den, Val.putσ], ?_⟩
        rw [hs1] at hrow'
        exact hT.append hf ⟨k, xs ++ ys, rfl, rfl, rfl⟩ (show SB.cells V (.rowi k (xs ++ ys) el) = some ((xs ++ ys).map (Value.int k)) from rfl) (by simpa using hrow') hgr hblk hnone hlo' _ _
    · cases he
  · cases he

end Ops
end Go.Proofs.YtaibhjpgbckbkaaGreatDoor.Sx

/- The symbolic executor, twelfth text: rows by their cells: append, copy, clear. -/
open Go
namespace Go.Proofs.YtaibhjpgbckbkaaGreatDoor.Sx

section Ops
variable {P : Program} {Γ : Env} {V : Val} {w w0 : World} {M : Nat → Prop} {T : Tab} {g : Nat → Option SV} {a : Act} {o : Oper} {e : Eff}

/-- A slice's value, its number of elements and its cells, in a world. -/
def HoldsC (w : World) (sz : Nat) (x : Value) (m : Nat) (cs : List Value) : Prop :=
  (x = .slice none 0 0 ∧ m = 0 ∧ cs = []) ∨ ∃ ad c, x = .slice (some ad) m c ∧ cs.length = m * sz ∧ ∀ (j : Nat) (u : Value), cs[j]? = some u → w.cell? (ad.add j) = some u

/-- What a slice holds, cell by cell: all of it known. -/
def seqC (T : Tab) (sz : Nat) : SV → Option (Nat × List SV)
  | .slc l s off len _ => match T l with
    | some B => match rdB B s off (len * sz) with
      | some ([], r) => match onesB r with
        | true => some (len, r)
        | false => none
      | _ => none
    | none => none
  | .slcR l off len _ => match T l with
    | some B => match rdB B true off (len * sz) with
      | some ([], r) => match onesB r with
        | true => some (len, r)
        | false => none
      | _ => none
    | none => none
  | .raw (.slice none 0 0) => some (0, [])
  | _ => none

theorem seqC_ok {sz : Nat} {v : SV} {x : Value} {m : Nat} {r : List SV} (hT : TabOK w0 M V T w) (hv : den V v = some x) (h : seqC T sz v = some (m, r)) :
    ∃ cs, denL V r = some cs ∧ onesB r = true ∧ HoldsC w sz x m cs := by
  have rd : ∀ (l : Nat) (B : SB) (s : Bool) (off len c : Nat) (r : List SV) (p : Nat × Nat), T l = some B → V.β l = some p → rdB B s off (len * sz) = some ([], r) →
      ∃ cs, denL V r = some cs ∧ HoldsC w sz (.slice (some ⟨p.1, p.2 + off, none⟩) len c) len cs := by
    intro l B s off len c r p hB hβ hr
    obtain ⟨xs, h1, h2, h3⟩ := rdB_ok (hT.ok l B hB) (b := p.1) (o := p.2) hβ hr (by simp)
    exact ⟨xs, h1, .inr ⟨_, c, rfl, h2, fun j u hj => by rw [add_addr]; exact h3 j u hj⟩⟩
  unfold seqC at h
  split at h
  · rename_i l s off len c
    simp only [den, Option.map_eq_some_iff] at hv
    obtain ⟨p, hβ, rfl⟩ := hv
    split at h
    · rename_i B hB
      split at h
      · rename_i r' hr
        split at h
        · rename_i hone
          simp only [Option.some.injEq, Prod.mk.injEq] at h
          obtain ⟨rfl, rfl⟩ := h
          obtain ⟨cs, h1, h2⟩ := rd l B s off len c r' p hB hβ hr
          exact ⟨cs, h1, hone, h2⟩
        · cases h
      · cases h
    · cases h
  · rename_i l off len lo
    simp only [den, Option.map_eq_some_iff, Option.bind_eq_some_iff] at hv
    obtain ⟨p, hβ, c, _, rfl⟩ := hv
    split at h
    · rename_i B hB
      split at h
      · rename_i r' hr
        split at h
        · rename_i hone
          simp only [Option.some.injEq, Prod.mk.injEq] at h
          obtain ⟨rfl, rfl⟩ := h
          obtain ⟨cs, h1, h2⟩ := rd l B true off len (c - lo) r' p hB hβ hr
          exact ⟨cs, h1, hone, h2⟩
        · cases h
      · cases h
    · cases h
  · simp only [Option.some.injEq, Prod.mk.injEq] at h
    obtain ⟨rfl, rfl⟩ := h
    simp only [den, Option.some.injEq] at hv
    exact ⟨[], rfl, rfl, .inl ⟨hv.symm, rfl, rfl⟩⟩
  · cases h

/-- What is appended to: the label that is given up, if any; how many elements; the cells. -/
def destC (T : Tab) (el : TypeId) (sz : Nat) : SV → Option (Option Nat × Nat × List SV)
  | .raw (.slice none 0 0) => some (none, 0, [])
  | .slcR l 0 len 0 => match T l with
    | some (.row sz2 cells ty) => match Nat.beq sz2 sz, Nat.beq ty el, Nat.ble (len * sz) cells.length && Nat.blt 0 sz with
      | true, true, true => some (some l, len, cells.take (len * sz))
      | _, _, _ => none
    | _ => none
  | .slc l true 0 len cap => match T l with
    | some (.own cells ty) => match Nat.beq (cap * sz) cells.length, Nat.beq ty el, Nat.ble len cap && Nat.ble cap 9223372036854775807 with
      | true, true, true => some (some l, len, cells.take (len * sz))
      | _, _, _ => none
    | _ => none
  | _ => none

theorem destC_ok {el : TypeId} {sz : Nat} {v : SV} {x : Value} {lo : Option Nat} {n : Nat} {r : List SV} (hT : TabOK w0 M V T w) (hv : den V v = some x) (h : destC T el sz v = some (lo, n, r)) :
    ∃ cs, denL V r = some cs ∧ w.ownsRow 0 el sz x n cs ∧ (lo = none → x = .slice none 0 0) ∧ (∀ l, lo = some l → x ≠ .slice none 0 0) ∧ ∀ l, lo = some l → ∃ B, T l = some B ∧ B.owned = true ∧ ∀ n, x.ownBlock = some n → B.blk V l = some n := by
  unfold destC at h
  split at h
  · simp only [Option.some.injEq, Prod.mk.injEq] at h
    obtain ⟨rfl, rfl, rfl⟩ := h
    simp only [den, Option.some.injEq] at hv
    subst hv
    exact ⟨[], rfl, World.ownsRow_nil w 0 el sz, fun _ => rfl, fun l hl => (by cases hl), fun l hl => (by cases hl)⟩
  · rename_i l len
    split at h
    · rename_i sz2 cells ty hB
      split at h
      · rename_i h1 h2 h3
        have := Nat.eq_of_beq_eq_true h1
        subst this
        have := Nat.eq_of_beq_eq_true h2
        subst this
        simp only [Bool.and_eq_true] at h3
        have h3a := Nat.le_of_ble_eq_true h3.1
        have h3b : 0 < sz2 := by simpa [Nat.blt_eq] using h3.2
        simp only [Option.some.injEq, Prod.mk.injEq] at h
        obtain ⟨rfl, rfl, rfl⟩ := h
        obtain ⟨cs, hc, b, cap, cur, hβ, hσ, hh, hcm, hcs, ⟨n, hn, hnc⟩, htake⟩ := hT.ok l _ hB
        have hcl := denL_length (show denL V cells = some cs from hc)
        simp only [den, hβ, hσ, capOf, Option.bind_some, Option.map_some, Option.some.injEq, Nat.add_zero, Nat.sub_zero, Int.toNat_natCast] at hv
        subst hv
        have hle : len ≤ n := by
          rw [← hcl, hn] at h3a
          exact Nat.le_of_mul_le_mul_right h3a h3b
        refine ⟨cs.take (len * sz2), denL_take _ hc, ⟨by rw [List.length_take, hcl]; omega, .inr ⟨b, cap, cur, rfl, Nat.zero_le _, hh, by omega, hcm, hcs, ?_⟩⟩, fun h => (by cases h), fun _ _ h => (by cases h), fun l' hl' => ?_⟩
        · rw [← htake, List.take_take, Nat.min_eq_left (by rw [hcl]; exact h3a)]
        · cases hl'
          exact ⟨_, hB, rfl, fun n hn => by simpa [SB.blk, hβ, Value.ownBlock] using hn⟩
      · cases h
    · cases h
  · rename_i l len cap
    split at h
    · rename_i cells ty hB
      split at h
      · rename_i h1 h2 h3
        have h1 := Nat.eq_of_beq_eq_true h1
        have := Nat.eq_of_beq_eq_true h2
        subst this
        simp only [Bool.and_eq_true] at h3
        have h3a := Nat.le_of_ble_eq_true h3.1
        have h3b := Nat.le_of_ble_eq_true h3.2
        simp only [Option.some.injEq, Prod.mk.injEq] at h
        obtain ⟨rfl, rfl, rfl⟩ := h
        obtain ⟨cs, hc, b, hβ, hh⟩ := hT.ok l _ hB
        have hcl := denL_length (show denL V cells = some cs from hc)
        simp only [den, hβ, Option.map_some, Option.some.injEq, Nat.add_zero] at hv
        subst hv
        have hle : len * sz ≤ cells.length := by rw [← h1]; exact Nat.mul_le_mul_right _ h3a
        refine ⟨cs.take (len * sz), denL_take _ hc, ⟨by rw [List.length_take, hcl]; omega, .inr ⟨b, cap, cs.toArray, rfl, Nat.zero_le _, hh, h3a, by simp only [maxLen]; omega, by simp [hcl, h1], rfl⟩⟩, fun h => (by cases h), fun _ _ h => (by cases h), fun l' hl' => ?_⟩
        cases hl'
        exact ⟨_, hB, rfl, fun n hn => by simpa [SB.blk, hβ, Value.ownBlock] using hn⟩
      · cases h
    · cases h
  · cases h

def optNone : Option Nat → Bool
  | none => true
  | some _ => false

/-- Cells appended. -/
def eAppC (T : Tab) (te : TI) (el : TypeId) (lab : Nat) (x y : SV) : Option Eff :=
  match Nat.blt 0 te.size, Nat.beq te.zero.length te.size with
  | true, true => match seqC T te.size y with
    | some (m, ys) => match x with
      | .slc _ _ _ 0 0 => match Nat.blt 0 m, Nat.ble (m * te.bytes) 140737488355328 && Nat.ble m 9223372036854775807 with
        | true, true => some { val := .slcR lab 0 m 0, new := [.row te.size ys el] }
        | _, _ => none
      | _ => match destC T el te.size x with
        | some (lo, n, xs) => match Nat.blt 0 (n + m) || !optNone lo, Nat.ble ((n + m) * te.bytes) 140737488355328 && Nat.ble (n + m) 9223372036854775807 with
          | true, true => match y with
            | .raw _ => match lo with
              | none => none
              | some _ => some { val := x }
            | _ => some { val := .slcR lab 0 (n + m) 0, new := [.row te.size (xs ++ ys) el], wr := goneL lo }
          | false, true => match y with
            | .raw _ => some { val := x }
            | _ => none
          | _, _ => none
        | none => none
    | none => none
  | _, _ => none

theorem eAppC_ok (hty : TyOK P Γ) {T' : Tab} (hsub : ∀ l B, T' l = some B → T l = some B) (hT : TabOK w0 M V T w) {lab : Nat} (hf : V.fresh lab) {t ty el : TypeId} {te : TI} (ht : P.underlying t = some (.slice el)) (hte : Γ.ty el = some te)
    {x y : SV} {u v : Value} (hx : den V x = some u) (hy : den V y = some v) (he : eAppC T' te el lab x y = some e) : SimV P w0 M V T lab e (Builtin.append_ #[t, t] ty #[u, v]) w := by
  unfold eAppC at he
  split at he
  case h_2 => cases he
  rename_i hs0 hz0
  have hs0 : 0 < te.size := by simpa [Nat.blt_eq] using hs0
  have hz0 := Nat.eq_of_beq_eq_true hz0
  obtain ⟨_, i, z, hi, hisz, hiby, hz, hzero⟩ := hty el te hte
  have hzs : z.cells.size = i.size := by
    have h1 := denL_length (hzero V)
    rw [hisz, ← hz0, ← h1]; simp
  split at he
  case h_2 => cases he
  rename_i m ys hseq
  obtain ⟨cy, hcy, hone, hh⟩ := seqC_ok (hT.sub hsub) hy hseq
  have h1 := ones_ok hone hcy
  rw [← hisz] at hh hs0
  split at he
  · rename_i l s off
    split at he
    case h_2 => cases he
    rename_i hm hb
    have hm : 0 < m := by simpa [Nat.blt_eq] using hm
    simp only [Bool.and_eq_true] at hb
    have hb1 := Nat.le_of_ble_eq_true hb.1
    have hb2 := Nat.le_of_ble_eq_true hb.2
    simp only [Option.some.injEq] at he
    subst he
    rcases hh with ⟨_, h0, _⟩ | ⟨ad, c, rfl, hl, hcells⟩
    · omega
    simp only [den, Option.map_eq_some_iff] at hx
    obtain ⟨p, _, rfl⟩ := hx
    have hr := run_append_grow (P := P) w t ty el i z ht hi hz ⟨p.1, p.2 + off, none⟩ 0 0 [] (by simp) (by intro j u hj; simp at hj) ad m c cy hl hcells (by omega) (by simp only [Nat.zero_add]; omega) (growslice_fits (by omega) (by rw [hiby]; simpa using hb1))
    have hgc := grownCap_ge w (0 + m) 0 el
    have hgm : grownCap w (0 + m) 0 el ≤ maxLen := grownCap_le_maxLen w (0 + m) 0 el (by simp only [maxLen]; omega)
    have hrow : (w.drew.alloc (.cells ((([] : List Value)).toArray ++ cy.toArray ++ Builtin.zeroCells z.cells (grownCap w (0 + m) 0 el - (0 + m))) el)).ownsRow 0 el i.size (.slice (some ⟨w.heap.size, 0, none⟩) (0 + m) (grownCap w (0 + m) 0 el)) (0 + m) cy := by
      refine ⟨by simpa using hl, .inr ⟨w.heap.size, _, _, rfl, Nat.zero_le _, heap_alloc_new w.drew _, hgc, hgm, ?_, ?_⟩⟩
      · simp only [Array.size_append, List.size_toArray, size_zeroCells, hzs, hl, List.length_nil, Nat.zero_add, ← Nat.add_mul]
        congr 1
        simp only [Nat.zero_add] at hgc
        omega
      · rw [Nat.zero_add, ← hl]; simp
    have hgr : w.grownBy (w.drew.alloc (.cells ((([] : List Value)).toArray ++ cy.toArray ++ Builtin.zeroCells z.cells (grownCap w (0 + m) 0 el - (0 + m))) el)) none := ⟨rfl, rfl, rfl, by simp, fun k hk _ => heap_alloc_old w.drew _ hk⟩
    rw [Nat.zero_add] at hr hrow hgr
    obtain ⟨b, cap, hv', hT'⟩ := hT.appendR (lab := lab) hf (lo := none) (own := none) hcy hrow (by simp) hgr (.inr rfl) (fun _ => rfl) (fun l hl => (by cases hl)) (.slcR lab 0 m 0) []
    refine ⟨_, _, _, hr, Val.put2_ext hf lab (Nat.le_refl _) (by omega) _ _, ?_, by rw [← hisz]; exact hT'⟩
    simp [den, Val.put2, Val.put, Val.putσ, capOf, hv']
  · split at he
    case h_2 => cases he
    rename_i lo n xs hdst
    obtain ⟨cx, hcx, hrow, hnone, hsome, hlo⟩ := destC_ok (hT.sub hsub) hx hdst
    rw [← hisz] at hrow
    have hlo' : ∀ l, lo = some l → ∃ B, T l = some B ∧ B.owned = true ∧ ∀ n, u.ownBlock = some n → B.blk V l = some n := fun l hl => by
      obtain ⟨B, h1, h2, h3⟩ := hlo l hl; exact ⟨B, hsub l B h1, h2, h3⟩
    have keep : ∀ {q : Value}, y = .raw q → SimV P w0 M V T lab { val := x } (Builtin.append_ #[t, t] ty #[u, v]) w := by
      intro q hq
      subst hq
      unfold seqC at hseq
      split at hseq <;> first | (cases hseq; done) | skip
      all_goals first
        | (rename_i heq; cases heq; done)
        | (rename_i heq
           cases heq
           simp only [den, Option.some.injEq] at hy
           subst hy
           have hr := run_append_owned_none (P := P) (w := w) 0 t ty el i i.size ht hi u n _ hrow
           exact simV_pure ⟨u, hr, hx, rfl, rfl⟩ hT)
        | (simp only [den, Option.some.injEq] at hy
           subst hy
           have hr := run_append_owned_none (P := P) (w := w) 0 t ty el i i.size ht hi u n _ hrow
           exact simV_pure ⟨u, hr, hx, rfl, rfl⟩ hT)
    split at he
    · rename_i hpos hb
      simp only [Bool.and_eq_true] at hb
      have hb1 := Nat.le_of_ble_eq_true hb.1
      have hb2 := Nat.le_of_ble_eq_true hb.2
      split at he
      · split at he
        · cases he
        · simp only [Option.some.injEq] at he
          subst he
          exact keep rfl
      · rename_i hnr
        simp only [Option.some.injEq] at he
        subst he
        rcases hh with ⟨rfl, rfl, rfl⟩ | ⟨ad, c, rfl, hl, hcells⟩
        · exfalso
          have : ∀ s : SV, den V s = some (.slice none 0 0) → seqC T' te.size s = some (0, ys) → ∃ q, s = .raw q := by
            intro s hs1 hs2
            unfold seqC at hs2
            split at hs2
            · simp only [den, Option.map_eq_some_iff] at hs1
              obtain ⟨p, _, hp⟩ := hs1
              cases hp
            · simp only [den, Option.map_eq_some_iff, Option.bind_eq_some_iff] at hs1
              obtain ⟨p, _, c, _, hp⟩ := hs1
              cases hp
            · exact ⟨_, rfl⟩
            · cases hs2
          obtain ⟨q, hq⟩ := this y hy hseq
          exact hnr q hq
        · obtain ⟨v', w', hr, hrow', hgr, hnil⟩ := run_append_own (P := P) w 0 t ty el i z i.size i.bytes ht hi hz rfl rfl hzs hs0 u n cx hrow ad m c cy hl hcells h1 (by simp only [maxLen]; omega) (by rw [hiby]; exact hb1) (Nat.zero_le _)
          have hblk := append_blk (P := P) ht hi hz hrow rfl hl hcells h1 (by simp only [maxLen]; omega) (by rw [hiby]; exact hb1) hr
          have hne : v' ≠ .slice none 0 0 := by
            intro h
            obtain ⟨h2, h3⟩ := hnil.1 h
            cases hlo0 : lo with
            | none =>
              simp only [hlo0, optNone, Bool.not_true, Bool.or_false] at hpos
              have : 0 < n + m := by simpa [Nat.blt_eq] using hpos
              subst h2
              rcases hrow.2 with ⟨_, h4⟩ | ⟨_, _, _, h4, _⟩
              · omega
              · cases h4
            | some l => exact hsome l hlo0 h2
          obtain ⟨b, cap, hv', hT'⟩ := hT.appendR (lab := lab) hf (lo := lo) (own := u.ownBlock) (denL_append hcx hcy) hrow' hne hgr hblk (fun h => by rw [hnone h]; rfl) hlo' (.slcR lab 0 (n + m) 0) []
          refine ⟨_, _, _, hr, Val.put2_ext hf lab (Nat.le_refl _) (by omega) _ _, ?_, by rw [← hisz]; exact hT'⟩
          simp [den, Val.put2, Val.put, Val.putσ, capOf, hv']
    · split at he
      · simp only [Option.some.injEq] at he
        subst he
        exact keep rfl
      · cases he
    · cases he

end Ops
end Go.Proofs.YtaibhjpgbckbkaaGreatDoor.Sx

/- The symbolic executor, thirteenth text: copy, clear, literals of structs, arrays and slices, a slice as an array. -/
open Go
namespace Go.Proofs.YtaibhjpgbckbkaaGreatDoor.Sx

section Ops
variable {P : Program} {Γ : Env} {V : Val} {w w0 : World} {M : Nat → Prop} {T : Tab} {g : Nat → Option SV} {a : Act} {o : Oper} {e : Eff}

/-- The label, the cell and the length of a slice that lies somewhere. -/
def slcAt : SV → Option (Nat × Nat × Nat)
  | .slc l true off len _ => some (l, off, len)
  | .slcR l off len _ => some (l, off, len)
  | _ => none

theorem slcAt_ok {v : SV} {x : Value} {l off len : Nat} (h : slcAt v = some (l, off, len)) (hv : den V v = some x) : ∃ p c, V.β l = some p ∧ x = .slice (some ⟨p.1, p.2 + off, none⟩) len c := by
  unfold slcAt at h
  split at h
  · simp only [Option.some.injEq, Prod.mk.injEq] at h
    obtain ⟨rfl, rfl, rfl⟩ := h
    simp only [den, Option.map_eq_some_iff] at hv
    obtain ⟨p, hβ, rfl⟩ := hv
    exact ⟨p, _, hβ, rfl⟩
  · simp only [Option.some.injEq, Prod.mk.injEq] at h
    obtain ⟨rfl, rfl, rfl⟩ := h
    simp only [den, Option.map_eq_some_iff, Option.bind_eq_some_iff] at hv
    obtain ⟨p, hβ, c, _, rfl⟩ := hv
    exact ⟨p, _, hβ, rfl⟩
  · cases h

/-- Cells copied. -/
def eCopyC (T : Tab) (sz : Nat) (x y : SV) : Option Eff :=
  match slcAt x, seqC T sz y with
  | some (l, off, len), some (m, ys) => match T l with
    | some B => match wrB B true off (ys.take (Nat.min m len * sz)) with
      | some ([], B') => some { val := .int true .i64 ((Nat.min m len : Nat) : Int), wr := [(l, B')] }
      | _ => none
    | none => none
  | _, _ => none

theorem eCopyC_ok (hty : TyOK P Γ) {T' : Tab} (hsub : ∀ l B, T' l = some B → T l = some B) (hT : TabOK w0 M V T w) {lab : Nat} {dT sT ty el : TypeId} {te : TI} (ht : P.underlying dT = some (.slice el)) (hte : Γ.ty el = some te)
    {x y : SV} {u v : Value} (hx : den V x = some u) (hy : den V y = some v) (he : eCopyC T' te.size x y = some e) : SimV P w0 M V T lab e (Builtin.copy_ #[dT, sT] ty #[u, v]) w := by
  unfold eCopyC at he
  split at he
  case h_2 => cases he
  rename_i l off len m ys hs hq
  split at he
  case h_2 => cases he
  rename_i B hB
  split at he
  case h_2 => cases he
  rename_i B' hw
  simp only [Option.some.injEq] at he
  subst he
  obtain ⟨_, i, z, hi, hisz, _⟩ := hty el te hte
  obtain ⟨p, c, hβ, rfl⟩ := slcAt_ok hs hx
  obtain ⟨cy, hcy, hone, hh⟩ := seqC_ok (hT.sub hsub) hy hq
  have h1 := ones_ok hone hcy
  have hd := denL_take (Nat.min m len * te.size) hcy
  obtain ⟨w', hr, hT'⟩ := wrB_ok (P := P) lab (.int true .i64 ((Nat.min m len : Nat) : Int)) hT (hsub l B hB) (b := p.1) (o := p.2) hβ hw (by simp) hd (fun q hq => h1 q (List.mem_of_mem_take hq))
  refine ⟨V, _, w', ?_, V.ext_refl lab, rfl, hT'⟩
  rcases hh with ⟨rfl, rfl, rfl⟩ | ⟨ad, c', rfl, hl, hcells⟩
  · have hf := run_firstCells_none (P := P) (w := w) te.size 0 0 0
    simp only [List.take_nil] at hr
    simp [Builtin.copy_, run_underlying ht, Builtin.lenOf, run_sizeOf hi, hisz, hf, hr, goInt]
  · have hf := run_firstCells_some (P := P) (w := w) te.size (Nat.min m len) ad m c' (cy.take (Nat.min m len * te.size))
      (by rw [List.length_take, hl]; exact Nat.min_eq_left (Nat.mul_le_mul_right _ (Nat.min_le_left _ _)))
      (fun j q hj => by
        rw [List.getElem?_take] at hj
        split at hj
        · exact hcells j q hj
        · cases hj)
    simp [Builtin.copy_, run_underlying ht, Builtin.lenOf, run_sizeOf hi, hisz, hf, hr, goInt]

/-- Zeros. -/
def zerosS (zero : List SV) (n : Nat) : List SV := (List.range (n * zero.length)).map fun j => zero.getD (j % zero.length) (.raw undef)

theorem zerosS_ok {zero : List SV} {z : Array Value} (h : denL V zero = some z.toList) (h0 : 0 < zero.length) (n : Nat) : denL V (zerosS zero n) = some (((Array.range (n * z.size)).map fun j => z[j % z.size]!).toList) := by
  have hl : z.size = zero.length := by have := denL_length h; simpa using this
  have := denL_map_range (V := V) (n * zero.length) (fun j => zero.getD (j % zero.length) (.raw undef)) (fun j => z[j % zero.length]!) (fun j _ => by
    have hlt : j % zero.length < zero.length := Nat.mod_lt _ h0
    obtain ⟨x, hx, hd⟩ := denL_get h (j % zero.length) _ (List.getElem?_eq_getElem hlt)
    have e1 : zero.getD (j % zero.length) (.raw undef) = zero[j % zero.length] := by simp [List.getD_eq_getElem?_getD, hlt]
    rw [e1, hd]
    have hz : j % zero.length < z.size := by omega
    simp only [Array.getElem?_toList, Array.getElem?_eq_getElem hz, Option.some.injEq] at hx
    rw [← hx]
    simp [getElem!_def, Array.getElem?_eq_getElem hz])
  rw [zerosS, this, hl]
  simp [Array.toList_range]

/-- A slice is made zero. -/
def eClearC (T : Tab) (te : TI) (x : SV) : Option Eff :=
  match x with
  | .raw (.slice none _ _) => some { val := .tup [] }
  | _ => match slcAt x, Nat.blt 0 te.zero.length && onesB te.zero with
    | some (l, off, len), true => match T l with
      | some B => match wrB B true off (zerosS te.zero len) with
        | some ([], B') => some { val := .tup [], wr := [(l, B')] }
        | _ => none
      | none => none
    | _, _ => none

theorem onesB_mem {vs : List SV} (h : onesB vs = true) {v : SV} (hv : v ∈ vs) : one1 v = true := by
  unfold onesB at h
  exact List.all_eq_true.1 h v hv

theorem zerosS_ones {zero : List SV} (h : onesB zero = true) (h0 : 0 < zero.length) (n : Nat) : onesB (zerosS zero n) = true := by
  unfold onesB zerosS
  rw [List.all_eq_true]
  intro v hv
  obtain ⟨j, _, rfl⟩ := List.mem_map.1 hv
  have hlt : j % zero.length < zero.length := Nat.mod_lt _ h0
  simp only [List.getD_eq_getElem?_getD, List.getElem?_eq_getElem hlt, Option.getD_some]
  exact onesB_mem h (List.getElem_mem hlt)

theorem eClearC_ok (hty : TyOK P Γ) {T' : Tab} (hsub : ∀ l B, T' l = some B → T l = some B) (hT : TabOK w0 M V T w) {lab : Nat} {t ty el : TypeId} {te : TI} (ht : P.underlying t = some (.slice el)) (hte : Γ.ty el = some te)
    {x : SV} {u : Value} (hx : den V x = some u) (he : eClearC T' te x = some e) : SimV P w0 M V T lab e (Builtin.clear_ #[t] ty #[u]) w := by
  unfold eClearC at he
  split at he
  · simp only [Option.some.injEq] at he
    subst he
    simp only [den, Option.some.injEq] at hx
    subst hx
    exact simV_pure ⟨.tuple #[], by simp [Builtin.clear_, run_underlying ht], by simp [den, denL], rfl, rfl⟩ hT
  · split at he
    case h_2 => cases he
    rename_i l off len hs hz
    split at he
    case h_2 => cases he
    rename_i B hB
    split at he
    case h_2 => cases he
    rename_i B' hw
    simp only [Option.some.injEq] at he
    subst he
    simp only [Bool.and_eq_true] at hz
    have h0 : 0 < te.zero.length := by simpa [Nat.blt_eq] using hz.1
    obtain ⟨_, i, z, hi, hisz, _, hzz, hzero⟩ := hty el te hte
    obtain ⟨p, c, hβ, rfl⟩ := slcAt_ok hs hx
    have hd := zerosS_ok (V := V) (hzero V) h0 len
    have h1 := ones_ok (zerosS_ones hz.2 h0 len) hd
    obtain ⟨w', hr, hT'⟩ := wrB_ok (P := P) lab (.tup []) hT (hsub l B hB) (b := p.1) (o := p.2) hβ hw (by simp) hd h1
    cases len with
    | zero =>
      refine ⟨V, .tuple #[], w, ?_, V.ext_refl lab, by simp [den, denL], ?_⟩
      · simp [Builtin.clear_, run_underlying ht]
      · have : w' = w := by
          have e0 : ((Array.range (0 * z.cells.size)).map fun j => z.cells[j % z.cells.size]!).toList = [] := by simp
          rw [e0] at hr
          simp only [storeCells, Sem.run_pure, Result.ok.injEq, true_and] at hr
          exact hr.symm
        rw [← this]; exact hT'
    | succ n =>
      refine ⟨V, .tuple #[], w', ?_, V.ext_refl lab, by simp [den, denL], hT'⟩
      have hzc : (Builtin.zeroCells z.cells (n + 1)).toList = ((Array.range ((n + 1) * z.cells.size)).map fun j => z.cells[j % z.cells.size]!).toList := rfl
      rw [← hzc] at hr
      simp [Builtin.clear_, run_underlying ht, run_zeroValue hi hzz, hr]

/-- The parts of a literal. -/
def evP (Γ : Env) (g : Nat → Option SV) : List (Nat × Operand) → Option (List (Nat × SV))
  | [] => some []
  | (i, x) :: r => match ev Γ g x, evP Γ g r with
    | some v, some vs => some ((i, v) :: vs)
    | _, _ => none

theorem evP_ok (ht : TmpOK V g a) (hg : GlobOK Γ V) : ∀ {ps : List (Nat × Operand)} {vs : List (Nat × SV)}, evP Γ g ps = some vs →
    (ps.map fun p => (p.1, a.eval p.2)).map (·.1) = vs.map (·.1) ∧ denL V (vs.map (·.2)) = some ((ps.map fun p => (p.1, a.eval p.2)).map (·.2))
  | [], vs, h => by simp only [evP, Option.some.injEq] at h; subst h; simp [denL]
  | (i, x) :: r, vs, h => by
    simp only [evP] at h
    split at h
    · rename_i v us hv hus
      cases h
      obtain ⟨h1, h2⟩ := evP_ok ht hg hus
      refine ⟨by simp only [List.map_cons, h1], ?_⟩
      simp only [List.map_cons, denL, ev_ok ht hg hv, Option.bind_some, h2, Option.map_some]
    · cases h

/-- The places of a struct's fields. -/
def placesOf (Γ : Env) : List Field → Option (List (Nat × Nat))
  | [] => some []
  | f :: r => match Γ.ty f.type, placesOf Γ r with
    | some ti, some ps => some ((f.offset, ti.size) :: ps)
    | _, _ => none

theorem placesOf_ok (hty : TyOK P Γ) (w : World) : ∀ {fs : List Field} {ps : List (Nat × Nat)}, placesOf Γ fs = some ps →
    (fs.mapM (m := Sem) fun f => do pure (f.offset, ← sizeOf f.type)).run P w = .ok ps w
  | [], ps, h => by simp only [placesOf, Option.some.injEq] at h; subst h; simp
  | f :: r, ps, h => by
    simp only [placesOf] at h
    split at h
    · rename_i ti qs hti hqs
      cases h
      obtain ⟨_, i, z, hi, hisz, _⟩ := hty _ _ hti
      have ih := placesOf_ok hty w hqs
      simp only [List.mapM_cons, Sem.run_bind, run_sizeOf hi, Result.andThen_ok, Sem.run_pure, ih, hisz]
    · cases h

def eBuild (Γ : Env) (g : Nat → Option SV) (t : TypeId) (parts : Array (Nat × Operand)) : Option Eff :=
  match Γ.ty t, evP Γ g parts.toList with
  | some ti, some vs => match ti.desc with
    | .struct fs => match placesOf Γ fs.toList with
      | some ps => (fillS (fun i => ps[i]?) ti.zero vs).map fun r => { val := .agg r }
      | none => none
    | .array _ el => match Γ.ty el with
      | some te => (fillS (fun i => some (i * te.size, te.size)) ti.zero vs).map fun r => { val := .agg r }
      | none => none
    | _ => none
  | _, _ => none

theorem eBuild_ok (hty : TyOK P Γ) (ht : TmpOK V g a) (hg : GlobOK Γ V) (hT : TabOK w0 M V T w) {t : TypeId} {parts : Array (Nat × Operand)} (hop : o.op = .build t parts) (he : eBuild Γ g t parts = some e) (lab : Nat) : Sim P w0 M V T lab e o a w := by
  unfold eBuild at he
  split at he
  case h_2 => cases he
  rename_i ti vs hti hvs
  obtain ⟨hu, i, z, hi, hisz, _, hz, hzero⟩ := hty t ti hti
  obtain ⟨h1, h2⟩ := evP_ok ht hg hvs
  have hpl : (parts.map fun (p : Nat × Operand) => (p.1, a.eval p.2)).toList = parts.toList.map fun p => (p.1, a.eval p.2) := by simp
  split at he
  · rename_i fs hd
    rw [hd] at hu
    split at he
    case h_2 => cases he
    rename_i ps hps
    simp only [Option.map_eq_some_iff] at he
    obtain ⟨r, hr, rfl⟩ := he
    obtain ⟨rs, hrs, hdr⟩ := fillS_ok (V := V) hr (hzero V) h1 h2
    refine sim_pure (x := .agg rs) ?_ (by simp [den, hdr]) rfl rfl hT
    have hm : (fs.mapM (m := Sem) fun f => do pure (f.offset, ← sizeOf f.type)).run P w = .ok ps.toArray w := by
      rw [Array.mapM_eq_mapM_toList]
      simp only [map_eq_pure_bind, Sem.run_bind, placesOf_ok hty w hps, Result.andThen_ok, Sem.run_pure]
    have hrs' : Instr.fill (fun i => ps.toArray[i]?) z.cells (parts.toList.map fun p => (p.1, a.eval p.2)) = some rs := by
      simpa using hrs
    unfold execOp
    simp only [hop, Instr.build, Sem.run_bind, run_zeroValue hi hz, Result.andThen_ok, run_underlying hu w, hm, hpl, hrs', Sem.run_pure]
  · rename_i n el hd
    rw [hd] at hu
    split at he
    case h_2 => cases he
    rename_i te hte
    obtain ⟨_, i2, z2, hi2, hisz2, _⟩ := hty el te hte
    simp only [Option.map_eq_some_iff] at he
    obtain ⟨r, hr, rfl⟩ := he
    obtain ⟨rs, hrs, hdr⟩ := fillS_ok (V := V) hr (hzero V) h1 h2
    refine sim_pure (x := .agg rs) ?_ (by simp [den, hdr]) rfl rfl hT
    have hrs' : Instr.fill (fun i => some (i * te.size, te.size)) z.cells (parts.toList.map fun p => (p.1, a.eval p.2)) = some rs := by
      simpa using hrs
    unfold execOp
    simp only [hop, Instr.build, Sem.run_bind, run_zeroValue hi hz, Result.andThen_ok, run_underlying hu w, run_sizeOf hi2, hisz2, hpl, hrs', Sem.run_pure]
  · cases he

def eBuildSlice (Γ : Env) (g : Nat → Option SV) (t : TypeId) (len : Nat) (parts : Array (Nat × Operand)) (lab : Nat) : Option Eff :=
  match Γ.ty t, evP Γ g parts.toList with
  | some ti, some vs => match ti.desc with
    | .slice el => match Γ.ty el with
      | some te => match Nat.blt 0 te.size && Nat.beq te.zero.length te.size && Nat.ble (len * te.size) 16777216 with
        | true => (fillS (fun i => some (i * te.size, te.size)) (zerosS te.zero len) vs).map fun r => { val := .slc lab true 0 len len, new := [.own r el] }
        | false => none
      | none => none
    | _ => none
  | _, _ => none

theorem eBuildSlice_ok (hty : TyOK P Γ) (ht : TmpOK V g a) (hg : GlobOK Γ V) (hT : TabOK w0 M V T w) {t : TypeId} {len : Nat} {parts : Array (Nat × Operand)} (hop : o.op = .buildSlice t len parts) {lab : Nat} (hf : V.fresh lab)
    (he : eBuildSlice Γ g t len parts lab = some e) : Sim P w0 M V T lab e o a w := by
  unfold eBuildSlice at he
  split at he
  case h_2 => cases he
  rename_i ti vs hti hvs
  obtain ⟨hu, _⟩ := hty t ti hti
  obtain ⟨h1, h2⟩ := evP_ok ht hg hvs
  have hpl : (parts.map fun (p : Nat × Operand) => (p.1, a.eval p.2)).toList = parts.toList.map fun p => (p.1, a.eval p.2) := by simp
  split at he
  case h_2 => cases he
  rename_i el hd
  rw [hd] at hu
  split at he
  case h_2 => cases he
  rename_i te hte
  obtain ⟨_, i, z, hi, hisz, _, hz, hzero⟩ := hty el te hte
  split at he
  case h_2 => cases he
  rename_i hc
  simp only [Bool.and_eq_true] at hc
  have hc1 : 0 < te.size := by simpa [Nat.blt_eq] using hc.1.1
  have hc2 := Nat.eq_of_beq_eq_true hc.1.2
  have hc3 := Nat.le_of_ble_eq_true hc.2
  have hzs : z.cells.size = te.size := by
    have h1 := denL_length (hzero V)
    rw [← hc2, ← h1]; simp
  simp only [Option.map_eq_some_iff] at he
  obtain ⟨r, hr, rfl⟩ := he
  have hzer := zerosS_ok (V := V) (hzero V) (by omega) len
  obtain ⟨rs, hrs, hdr⟩ := fillS_ok (V := V) hr hzer h1 h2
  intro K Q hK
  unfold Oper.wp
  have hrs' : Instr.fill (fun i => some (i * te.size, te.size)) ((Array.range (len * te.size)).map (z.cells[· % z.cells.size]!)) (parts.toList.map fun p => (p.1, a.eval p.2)) = some rs := by
    rw [← hrs, hzs]
  have hrun : (execOp a.eval o).run P w = .ok (.value (.slice (some ⟨w.heap.size, 0, none⟩) len len)) (w.alloc (.cells rs el)) := by
    unfold execOp
    have hnot : ¬ (len * te.size > 2 ^ 24) := by omega
    by_cases h0 : len * te.size = 0
    · have hlen : len = 0 := by
        rcases Nat.mul_eq_zero.1 h0 with h | h
        · exact h
        · omega
      subst hlen
      have hr0 : Array.range (0 * te.size) = #[] := by rw [Nat.zero_mul]; rfl
      rw [hr0, Array.map_empty] at hrs'
      simp only [hop, Instr.buildSlice, Sem.run_bind, run_underlying hu w, Result.andThen_ok, run_sizeOf hi, hisz, if_neg hnot, if_pos h0, Sem.run_pure, hr0, Array.map_empty, hpl, hrs']
      simp [newRow]
    · simp only [hop, Instr.buildSlice, Sem.run_bind, run_underlying hu w, Result.andThen_ok, run_sizeOf hi, hisz, if_neg hnot, if_neg h0, run_zeroValue hi hz, Sem.run_pure, hpl, hrs']
      simp [newRow]
  rw [hrun, Oper.upon_value]
  have := hT.alloc hf (B := .own r el) (cs := rs.toList) (.inl rfl) hdr (.slc lab true 0 len len) []
  exact hK (V.put lab (w.heap.size, 0)) _ _ (Val.put_ext hf lab (Nat.le_refl _) (by omega) _) (by simp [den, Val.put]) this

/-- A slice as a pointer to an array. -/
def eArr (Γ : Env) (g : Nat → Option SV) (t : TypeId) (x : Operand) : Option Eff :=
  match Γ.ty t, ev Γ g x with
  | some ti, some v => match ti.desc, slcAt v with
    | .array n _, some (l, off, len) => match Nat.ble n len with
      | true => some { val := .ptr l true off }
      | false => none
    | _, _ => none
  | _, _ => none

theorem eArr_ok (hty : TyOK P Γ) (ht : TmpOK V g a) (hg : GlobOK Γ V) (hT : TabOK w0 M V T w) {t : TypeId} {x : Operand} (hop : o.op = .sliceToArrayPointer t x) (he : eArr Γ g t x = some e) (lab : Nat) : Sim P w0 M V T lab e o a w := by
  unfold eArr at he
  split at he
  case h_2 => cases he
  rename_i ti v hti hv
  split at he
  case h_2 => cases he
  rename_i n el l off len hd hs
  split at he
  case h_2 => cases he
  rename_i hle
  have hle := Nat.le_of_ble_eq_true hle
  simp only [Option.some.injEq] at he
  subst he
  obtain ⟨hu, _⟩ := hty t ti hti
  rw [hd] at hu
  obtain ⟨p, c, hβ, hx⟩ := slcAt_ok hs (ev_ok ht hg hv)
  refine sim_pure (x := .pointer (some ⟨p.1, p.2 + off, none⟩)) ?_ (by simp [den, hβ]) rfl rfl hT
  unfold execOp
  have hnot : ¬ len < n := by omega
  simp only [hop, hx, Instr.arrayAt, Sem.run_bind, run_underlying hu w, Result.andThen_ok, if_neg hnot, Sem.run_pure]

/-- A slice that is nil, and as many zeros as a number says. -/
def eAppMake (d : TypeDesc) (te : TI) (el : TypeId) (lab : Nat) (x y : SV) : Option Eff :=
  match d, x, y with
  | .int _, .raw (.slice none 0 0), .int true _ n => match decide (0 < n ∧ n * te.bytes ≤ 140737488355328 ∧ n ≤ 9223372036854775807), te.zero, Nat.beq te.size 1 with
    | true, [.int _ k z], true => some { val := .slcR lab 0 n.toNat 0, new := [.row 1 (List.replicate n.toNat (.int true k z)) el] }
    | _, _, _ => none
  | _, _, _ => none

theorem zeroCells_one (v : Value) (n : Nat) : Builtin.zeroCells #[v] n = (List.replicate n v).toArray := by
  apply Array.ext
  · simp [Builtin.zeroCells]
  · intro i h1 h2
    simp [Builtin.zeroCells, Nat.mod_one]

theorem run_append_make (w : World) {t t2 ty el : TypeId} {ik : IntKind} {i : TypeInfo} {z : Value} (ht : P.underlying t = some (.slice el)) (ht2 : P.underlying t2 = some (.int ik)) (hi : P.info? el = some i) (hz : i.zero = some z) (hsz : i.size = 1) (k0 : IntKind) (n : Nat)
    (h0 : 0 < n) (h63 : (n : Int) ≤ 9223372036854775807) (hb : n * i.bytes ≤ 140737488355328) :
    (Builtin.append_ #[t, t2] ty #[.slice none 0 0, .int k0 n]).run P w = .ok (.slice (some ⟨w.heap.size, 0, none⟩) n (grownCap w n 0 el))
      (w.drew.alloc (.cells (Builtin.zeroCells z.cells n ++ Builtin.zeroCells z.cells (grownCap w n 0 el - n)) el)) := by
  have hw : IntKind.i64.wrap (n : Int) = n := IntWalk.i64_in _ (by omega)
  have hn : n ≠ 0 := by omega
  have h63' : ¬ (9223372036854775807 < (n : Int)) := by omega
  have h1 : ¬ ((n : Int) < 0) := by omega
  have h2 : ¬ (281474976710656 < (n : Int) * (i.bytes : Int)) := by
    have : ((n * i.bytes : Nat) : Int) ≤ 140737488355328 := by omega
    rw [Int.natCast_mul] at this
    omega
  have h48' : ¬ (281474976710656 < Builtin.nextslicecap n 0 * i.bytes) := by rw [nextslicecap_zero h0]; omega
  simp [Builtin.append_, run_underlying ht, run_underlying ht2, sizeOf, typeInfo, zeroValue, hi, hz, hsz, asInt, asIntOf, hw, h1, h2, hn, h63', h48', Question.forced, newRow, grownCap, Builtin.firstCells]

theorem eAppMake_ok (hty : TyOK P Γ) (hT : TabOK w0 M V T w) {lab : Nat} (hf : V.fresh lab) {t t2 ty el : TypeId} {d : TypeDesc} {te : TI} (ht : P.underlying t = some (.slice el)) (ht2 : P.underlying t2 = some d) (hte : Γ.ty el = some te)
    {x y : SV} {u v : Value} (hx : den V x = some u) (hy : den V y = some v) (he : eAppMake d te el lab x y = some e) : SimV P w0 M V T lab e (Builtin.append_ #[t, t2] ty #[u, v]) w := by
  unfold eAppMake at he
  split at he
  case h_2 => cases he
  rename_i ik kk n
  split at he
  case h_2 => cases he
  rename_i s k z hc hz0 hs
  obtain ⟨h1, h2, h3⟩ := of_decide_eq_true hc
  have hs := Nat.eq_of_beq_eq_true hs
  simp only [Option.some.injEq] at he
  subst he
  simp only [den, Option.some.injEq] at hx hy
  subst hx hy
  obtain ⟨_, i, zv, hi, hisz, hiby, hz, hzero⟩ := hty el te hte
  obtain ⟨m, rfl⟩ := Int.eq_ofNat_of_zero_le (Int.le_of_lt h1)
  have hm : 0 < m := by omega
  have hzc : zv.cells = #[.int k z] := by
    have := hzero V
    rw [hz0] at this
    simp only [denL, den, Option.bind_some, Option.map_some, Option.some.injEq] at this
    apply Array.ext'
    exact this.symm
  have hb : m * i.bytes ≤ 140737488355328 := by
    rw [hiby]
    have : ((m * te.bytes : Nat) : Int) ≤ 140737488355328 := by rw [Int.natCast_mul]; exact h2
    exact Int.ofNat_le.1 this
  have hr := run_append_make (P := P) (ty := ty) w ht ht2 hi hz (hisz.trans hs) kk m hm h3 hb
  have hgc := grownCap_ge w m 0 el
  have hgm : grownCap w m 0 el ≤ maxLen := grownCap_le_maxLen w m 0 el (by simp only [maxLen]; omega)
  have hrow : (w.drew.alloc (.cells (Builtin.zeroCells zv.cells m ++ Builtin.zeroCells zv.cells (grownCap w m 0 el - m)) el)).ownsRow 0 el 1 (.slice (some ⟨w.heap.size, 0, none⟩) m (grownCap w m 0 el)) m (List.replicate m (Value.int k z)) := by
    refine ⟨by simp, .inr ⟨w.heap.size, _, _, rfl, Nat.zero_le _, heap_alloc_new w.drew _, hgc, hgm, ?_, ?_⟩⟩
    · rw [hzc]; simp [zeroCells_one]; omega
    · rw [hzc]; simp [zeroCells_one]
  have hgr : w.grownBy (w.drew.alloc (.cells (Builtin.zeroCells zv.cells m ++ Builtin.zeroCells zv.cells (grownCap w m 0 el - m)) el)) none := ⟨rfl, rfl, rfl, by simp, fun k hk _ => heap_alloc_old w.drew _ hk⟩
  have hden : denL V (List.replicate m (SV.int true k z)) = some (List.replicate m (Value.int k z)) := by
    clear hr hgc hgm hrow hgr hb h1 h2 h3 hm hc
    induction m with
    | zero => rfl
    | succ m ih => simp [List.replicate_succ, denL, den, ih]
  obtain ⟨b, cap, hv', hT'⟩ := hT.appendR (lab := lab) hf (lo := none) (own := none) hden hrow (by simp) hgr (.inr rfl) (fun _ => rfl) (fun l hl => (by cases hl)) (.slcR lab 0 m 0) []
  refine ⟨_, _, _, hr, Val.put2_ext hf lab (Nat.le_refl _) (by omega) _ _, ?_, hT'⟩
  simp [den, Val.put2, Val.put, Val.putσ, capOf, hv']

end Ops
end Go.Proofs.YtaibhjpgbckbkaaGreatDoor.Sx

/- The symbolic executor, fourteenth text: one operation, whichever it is; calls. -/
open Go
namespace Go.Proofs.YtaibhjpgbckbkaaGreatDoor.Sx

/-- From F on no label is given. -/
def Val.top (V : Val) (F : Nat) : Prop := ∀ l, F ≤ l → V.β l = none ∧ V.σ l = none

/-- A summary says what a call of the function does. -/
def SumOK (P : Program) (Γ : Env) (f : FuncId) (S : Sum) : Prop :=
  ∀ vs T lab F e, S vs T lab F = some e → (∀ q ∈ e.obl, q) → ∀ (w0 : World) (M : Nat → Prop) (V : Val) (T2 : Tab) (w : World) (xs : List Value),
    (∀ l B, T l = some B → T2 l = some B) → TabOK w0 M V T2 w → GlobOK Γ V → V.fresh lab → V.top F → denL V vs = some xs →
    ∀ (o : Oper) (a : Act) K Q, (∀ V' x w', V.ext lab V' → den V' e.val = some x → TabOK w0 M V' (upd T2 lab e) w' → K (a.put o.dst x) w') →
      o.upon P a K Q ((callFunc f xs.toArray).run P w)

/-- The same of a function that is called at another's end. -/
def SumDOK (P : Program) (Γ : Env) (f : FuncId) (S : Sum) : Prop :=
  ∀ vs T lab F e, S vs T lab F = some e → (∀ q ∈ e.obl, q) → ∀ (w0 : World) (M : Nat → Prop) (V : Val) (T2 : Tab) (w : World) (xs : List Value),
    (∀ l B, T l = some B → T2 l = some B) → TabOK w0 M V T2 w → GlobOK Γ V → V.fresh lab → V.top F → denL V vs = some xs →
    ∀ (fn : Func) (tmps : Array Value) (ds : List Deferred) (R : Ending → World → Prop), (∀ V' w', V.ext lab V' → TabOK w0 M V' (upd T2 lab e) w' → Leaves P fn tmps R ds .returning w') →
      ∀ as cs : Array Value, as.toList ++ cs.toList = xs → Leaves P fn tmps R ({ target := .fn (.func f) cs, args := as } :: ds) .returning w

def SumsOK (P : Program) (Γ : Env) : Prop := (∀ f S, Γ.sum f = some S → SumOK P Γ f S) ∧ (∀ f S, Γ.dsum f = some S → SumDOK P Γ f S) ∧
  (∀ t, Γ.cmp.elem t = true → ∀ i, P.info? t = some i → i.comparable = true) ∧ ∃ d, P.depth = d + 2

def orE (a b : Option Eff) : Option Eff := match a with
  | some e => some e
  | none => b

def beqKind (a b : IntKind) : Bool := decide (a = b)

def wholeB : SB → Bool
  | .own .. | .ints .. | .vals .. | .row .. => true
  | _ => false

/-- Two rows of integers: are they literal, are they alike? -/
def eqIs : List SV → List SV → Option (Bool × Bool)
  | [], [] => some (true, true)
  | .int s k a :: xs, .int s' k' b :: ys => match beqKind k k', eqIs xs ys with
    | true, some (l, r) => some (s && (s' && l), (a == b) && r)
    | _, _ => none
  | _, _ => none

def eqBool (op : BinOp) (s b : Bool) : Option Eff := match op with
  | .eql => some { val := .bool s b }
  | .neq => some { val := .bool s (!b) }
  | _ => none

/-- Two pointers, none of them nil; two interface values that hold one pointer; two arrays of integers. -/
def eSame (Γ : Env) (g : Nat → Option SV) (T : Tab) (op : BinOp) (t : TypeId) (x y : Operand) : Option Eff :=
  match ev Γ g x, ev Γ g y with
  | some (.ptr l _ o), some (.ptr l' _ o') => match Γ.ty t with
    | some ti => match ti.desc with
      | .pointer el => match Γ.ty el with
        | some te => match Nat.beq l l' with
          | true => match Nat.beq o o' with
            | true => eqlB op true
            | false => match Nat.beq te.size 0 with
              | true => none
              | false => eqlB op false
          | false => match Nat.beq te.size 0, T l, T l' with
            | false, some B, some B' => match wholeB B && wholeB B' with
              | true => eqlB op false
              | false => none
            | _, _, _ => none
        | none => none
      | _ => none
    | none => none
  | some (.ifc t1 (.ptr l _ o)), some (.ifc t2 (.ptr l' _ o')) => match Γ.ty t, Γ.ty t1 with
    | some ti, some t1i => match ti.desc, t1i.desc with
      | .interface _, .pointer el => match Γ.ty el with
        | some _ => match Nat.beq t1 t2 && (Nat.beq l l' && (Nat.beq o o' && Γ.cmp.elem t1)) with
          | true => eqlB op true
          | false => none
        | none => none
      | _, _ => none
    | _, _ => none
  | some (.agg xs), some (.agg ys) => match Γ.ty t with
    | some ti => match ti.desc with
      | .array n el => match Γ.ty el with
        | some te => match te.desc, Nat.beq te.size 1 && Nat.beq xs.length n, eqIs xs ys with
          | .int _, true, some (l, r) => eqBool op l r
          | _, _, _ => none
        | none => none
      | _ => none
    | none => none
  | _, _ => none

def eBuiltin (Γ : Env) (T : Tab) (lab : Nat) (b : Builtin) (ts : List TypeId) (vs : List SV) : Option Eff :=
  match b, ts, vs with
  | .len, t :: _, [v] => match Γ.ty t with
    | some ti => eLen Γ T ti.desc v
    | none => none
  | .cap, t :: _, [v] => match Γ.ty t with
    | some ti => match ti.desc with
      | .slice _ => eCap v
      | _ => none
    | none => none
  | .append, [t, t2], [x, y] => match Nat.beq t t2, y with
    | false, .int .. => match Γ.ty t, Γ.ty t2 with
      | some ti, some ti2 => match ti.desc with
        | .slice el => match Γ.ty el with
          | some te => eAppMake ti2.desc te el lab x y
          | none => none
        | _ => none
      | _, _ => none
    | _, _ => match Γ.ty t, Nat.beq t t2 with
      | some ti, true => match ti.desc with
        | .slice el => match Γ.ty el with
          | some te => orE (eAppC T te el lab x y) (eAppI T te el lab x y)
          | none => none
        | _ => none
      | _, _ => none
  | .copy, [t, _], [x, y] => match Γ.ty t with
    | some ti => match ti.desc with
      | .slice el => match Γ.ty el with
        | some te => eCopyC T te.size x y
        | none => none
      | _ => none
    | none => none
  | .clear, [t], [x] => match Γ.ty t with
    | some ti => match ti.desc with
      | .slice el => match Γ.ty el with
        | some te => eClearC T te x
        | none => none
      | _ => none
    | none => none
  | _, _, _ => none

def eCall (Γ : Env) (g : Nat → Option SV) (T : Tab) (lab F : Nat) (c : Call) : Option Eff :=
  match evL Γ g c.args.toList with
  | none => none
  | some vs => match c.callee with
    | .builtin b => eBuiltin Γ T lab b c.argTypes.toList vs
    | .value f => match ev Γ g f with
      | some (.fn (.func id) first capt) => match Γ.sum id with
        | some S => S (first ++ vs ++ capt) T lab F
        | none => none
      | _ => none
    | .invoke _ _ => none

def opEff (Γ : Env) (g : Nat → Option SV) (T : Tab) (lab F : Nat) (h : Option Bool) (o : Oper) : Option Eff :=
  match o.op with
  | .move x => eMove Γ g x
  | .assign x => eMove Γ g x
  | .pick c x y => ePick Γ g c x y
  | .alloc t => eAlloc Γ t lab
  | .box t x => eBox Γ g t x lab
  | .build t ps => eBuild Γ g t ps
  | .buildSlice t n ps => eBuildSlice Γ g t n ps lab
  | .load t x => eLoad Γ g T t x
  | .store t x y => eStore Γ g T t x y
  | .nilCheck x => eNil Γ g x
  | .binOp op t x y _ => match op with
    | .eql => orE (eBin Γ g h .eql t x y) (eSame Γ g T .eql t x y)
    | .neq => orE (eBin Γ g h .neq t x y) (eSame Γ g T .neq t x y)
    | _ => eBin Γ g h op t x y
  | .unOp op _ x => eUn Γ g op x
  | .convert s d x => eConv Γ g s d x
  | .sliceToArrayPointer t x => eArr Γ g t x
  | .makeInterface t x => eMakeIface Γ g t x
  | .makeFunc f xs cs => eMakeFunc Γ g f xs cs
  | .makeSlice t x y => eMakeSlice Γ g t x y lab
  | .slice t x lo hi mx => eSlice Γ g T t x lo hi mx
  | .fieldAddr t x n => eField Γ g t x n
  | .field t x n => eFieldV Γ g t x n
  | .indexAddr t x y => eIndexAddr Γ g t x y
  | .index t x y => eIndexV Γ g t x y
  | .extract x i => eExtract Γ g x i
  | .call c => eCall Γ g T lab F c
  | _ => none

theorem beq_false' {a b : Nat} (h : Nat.beq a b = false) : a ≠ b := fun e => by subst e; rw [Nat.beq_refl] at h; cases h

section Ops
variable {P : Program} {Γ : Env} {V : Val} {w w0 : World} {M : Nat → Prop} {T : Tab} {g : Nat → Option SV} {a : Act} {o : Oper} {e : Eff}

theorem evL_list {xs : Array Operand} {vs : List SV} (ht : TmpOK V g a) (hg : GlobOK Γ V) (h : evL Γ g xs.toList = some vs) : denL V vs = some (xs.map a.eval).toList := by
  rw [Array.toList_map]; exact evL_ok ht hg h

theorem denL_one {v : SV} {xs : List Value} (h : denL V [v] = some xs) : ∃ x, xs = [x] ∧ den V v = some x := by
  simp only [denL, Option.map_eq_some_iff, Option.bind_eq_some_iff] at h
  obtain ⟨x, hx, ys, hy, rfl⟩ := h
  simp only [Option.some.injEq] at hy
  subst hy
  exact ⟨x, rfl, hx⟩

theorem denL_two {u v : SV} {xs : List Value} (h : denL V [u, v] = some xs) : ∃ x y, xs = [x, y] ∧ den V u = some x ∧ den V v = some y := by
  simp only [denL, Option.map_eq_some_iff, Option.bind_eq_some_iff] at h
  obtain ⟨x, hx, ys, ⟨y, hy, zs, hz, rfl⟩, rfl⟩ := h
  simp only [Option.some.injEq] at hz
  subst hz
  exact ⟨x, y, rfl, hx, hy⟩

def bRun (b : Builtin) (ats : Array TypeId) (ty : TypeId) (xs : Array Value) : Sem Value := match b with
  | .len => Builtin.len_ ats ty xs
  | .cap => Builtin.cap_ ats ty xs
  | .append => Builtin.append_ ats ty xs
  | .copy => Builtin.copy_ ats ty xs
  | .clear => Builtin.clear_ ats ty xs
  | _ => stuck ""

theorem eBuiltin_ok (hty : TyOK P Γ) {T' : Tab} (hsub : ∀ l B, T' l = some B → T l = some B) (hT : TabOK w0 M V T w) {lab : Nat} (hf : V.fresh lab) {b : Builtin} {ats : Array TypeId} {ty : TypeId} {vs : List SV} {xs : Array Value}
    (hv : denL V vs = some xs.toList) (he : eBuiltin Γ T' lab b ats.toList vs = some e) (ho : ∀ q ∈ e.obl, q) :
    SimV P w0 M V T lab e (bRun b ats ty xs) w := by
  obtain ⟨ts, hts⟩ : ∃ ts, ats.toList = ts := ⟨_, rfl⟩
  rw [hts] at he
  unfold eBuiltin at he
  split at he
  · rename_i t r v
    split at he
    case h_2 => cases he
    rename_i ti hti
    obtain ⟨x, hx, hd⟩ := denL_one hv
    have hxs : xs = #[x] := by apply Array.ext'; simpa using hx
    subst hxs
    have hat : ats[0]? = some t := by rw [← Array.getElem?_toList, hts]; rfl
    exact simV_pure (eLen_ok (ty := ty) hty hsub hT hat (hty t ti hti).1 hd he) hT
  · rename_i t r v
    split at he
    case h_2 => cases he
    rename_i ti hti
    split at he
    case h_2 => cases he
    rename_i el hdd
    obtain ⟨x, hx, hd⟩ := denL_one hv
    have hxs : xs = #[x] := by apply Array.ext'; simpa using hx
    subst hxs
    have hat : ats[0]? = some t := by rw [← Array.getElem?_toList, hts]; rfl
    have hu := (hty t ti hti).1
    rw [hdd] at hu
    exact simV_pure (eCap_ok (ty := ty) hat hu hd he) hT
  · rename_i t t2 x y
    split at he
    · rename_i s k n htt
      split at he
      case h_2 => cases he
      rename_i ti ti2 hti hti2
      split at he
      case h_2 => cases he
      rename_i el hdd
      split at he
      case h_2 => cases he
      rename_i te hte
      obtain ⟨p, q, hx, hp, hq⟩ := denL_two hv
      have hxs : xs = #[p, q] := by apply Array.ext'; simpa using hx
      subst hxs
      have hats : ats = #[t, t2] := by apply Array.ext'; simpa using hts
      subst hats
      have hu := (hty t ti hti).1
      rw [hdd] at hu
      exact eAppMake_ok (ty := ty) hty hT hf hu (hty t2 ti2 hti2).1 hte hp hq he
    · split at he
      case h_2 => cases he
      rename_i ti hti htt
      have := Nat.eq_of_beq_eq_true htt
      subst this
      split at he
      case h_2 => cases he
      rename_i el hdd
      split at he
      case h_2 => cases he
      rename_i te hte
      obtain ⟨p, q, hx, hp, hq⟩ := denL_two hv
      have hxs : xs = #[p, q] := by apply Array.ext'; simpa using hx
      subst hxs
      have hats : ats = #[t, t] := by apply Array.ext'; simpa using hts
      subst hats
      have hu := (hty t ti hti).1
      rw [hdd] at hu
      unfold orE at he
      split at he
      · rename_i e' he'
        cases he
        exact eAppC_ok (ty := ty) hty hsub hT hf hu hte hp hq he'
      · exact eAppI_ok (ty := ty) hty hsub hT hf hu hte hp hq he ho
  · rename_i t t2 x y
    split at he
    case h_2 => cases he
    rename_i ti hti
    split at he
    case h_2 => cases he
    rename_i el hdd
    split at he
    case h_2 => cases he
    rename_i te hte
    obtain ⟨p, q, hx, hp, hq⟩ := denL_two hv
    have hxs : xs = #[p, q] := by apply Array.ext'; simpa using hx
    subst hxs
    have hats : ats = #[t, t2] := by apply Array.ext'; simpa using hts
    subst hats
    have hu := (hty t ti hti).1
    rw [hdd] at hu
    exact eCopyC_ok (ty := ty) hty hsub hT hu hte hp hq he
  · rename_i t x
    split at he
    case h_2 => cases he
    rename_i ti hti
    split at he
    case h_2 => cases he
    rename_i el hdd
    split at he
    case h_2 => cases he
    rename_i te hte
    obtain ⟨p, hx, hp⟩ := denL_one hv
    have hxs : xs = #[p] := by apply Array.ext'; simpa using hx
    subst hxs
    have hats : ats = #[t] := by apply Array.ext'; simpa using hts
    subst hats
    have hu := (hty t ti hti).1
    rw [hdd] at hu
    exact eClearC_ok (ty := ty) hty hsub hT hu hte hp he
  · cases he

theorem sim_of_simV {lab : Nat} {s : Sem Value} (h : SimV P w0 M V T lab e s w) (hr : execOp a.eval o = (do pure (.value (← s)))) : Sim P w0 M V T lab e o a w := by
  obtain ⟨V', x, w', h1, h2, h3, h4⟩ := h
  intro K Q hK
  unfold Oper.wp
  rw [hr]
  simp only [Sem.run_bind, h1, Result.andThen_ok, Sem.run_pure, Oper.upon_value]
  exact hK V' x w' h2 h3 h4

theorem eCall_ok (hty : TyOK P Γ) (hsum : SumsOK P Γ) (ht : TmpOK V g a) (hg : GlobOK Γ V) {T' : Tab} (hsub : ∀ l B, T' l = some B → T l = some B) (hT : TabOK w0 M V T w) {lab F : Nat} (hf : V.fresh lab) (hF : V.top F) {c : Call} (hop : o.op = .call c)
    (he : eCall Γ g T' lab F c = some e) (ho : ∀ q ∈ e.obl, q) : Sim P w0 M V T lab e o a w := by
  unfold eCall at he
  split at he
  case h_1 => cases he
  rename_i vs hvs
  have hd := evL_list ht hg hvs
  split at he
  · rename_i b hb
    have hs := eBuiltin_ok (P := P) (ty := o.type) hty hsub hT hf hd he ho
    refine sim_of_simV hs ?_
    unfold execOp
    simp only [hop, resolve, hb]
    unfold eBuiltin at he
    split at he <;> first | (cases he; done) | rfl
  · rename_i f hb
    split at he
    case h_2 => cases he
    rename_i id first capt hfv
    split at he
    case h_2 => cases he
    rename_i S hS
    have ef := ev_ok ht hg hfv
    simp only [den, Option.bind_eq_some_iff, Option.map_eq_some_iff] at ef
    obtain ⟨xf, hxf, xc, hxc, ef⟩ := ef
    intro K Q hK
    have hall := denL_append (denL_append hxf hd) hxc
    have := hsum.1 id S hS _ _ _ _ _ he ho w0 M V T w _ hsub hT hg hf hF hall o a K Q hK
    unfold Oper.wp
    have hrun : (execOp a.eval o).run P w = (callFunc id ((xf ++ (c.args.map a.eval).toList ++ xc).toArray)).run P w := by
      unfold execOp
      simp only [hop, resolve, hb, ← ef, Deferred.ofValue, invoke]
      have : (xf ++ (c.args.map a.eval).toList ++ xc).toArray = xf.toArray ++ c.args.map a.eval ++ xc.toArray := by
        apply Array.ext'; simp
      rw [this]
      rfl
    rw [hrun]
    exact this
  · cases he

theorem wholeB_ok {l : Nat} {B : SB} {p : Nat × Nat} (h : wholeB B = true) (hβ : V.β l = some p) (hok : okB V w l B) : B.owned = true ∧ B.blk V l = some p.1 ∧ p.2 = 0 ∧ ∃ cs ty, w.heap[p.1]? = some (.cells cs ty (0, 0)) := by
  obtain ⟨cs, _, h2⟩ := hok
  cases B with
  | own cells ty => obtain ⟨b, hb, hh⟩ := h2; rw [hβ] at hb; cases hb; exact ⟨rfl, by simp [SB.blk, hβ], rfl, _, _, hh⟩
  | ints k xs ty => obtain ⟨b, hb, hh⟩ := h2; rw [hβ] at hb; cases hb; exact ⟨rfl, by simp [SB.blk, hβ], rfl, _, _, hh⟩
  | vals vs ty => obtain ⟨b, hb, hh⟩ := h2; rw [hβ] at hb; cases hb; exact ⟨rfl, by simp [SB.blk, hβ], rfl, _, _, hh⟩
  | row sz cells ty => obtain ⟨b, _, _, hb, _, hh, _⟩ := h2; rw [hβ] at hb; cases hb; exact ⟨rfl, by simp [SB.blk, hβ], rfl, _, _, hh⟩
  | _ => cases h

theorem run_eqItems_ints (d : Nat) {e : TypeId} {k0 : IntKind} (he : P.underlying e = some (.int k0)) (as bs : Array Value) :
    ∀ (xs ys : List SV) (j : Nat) (l r : Bool), eqIs xs ys = some (l, r) → denL V xs = some (as.toList.drop j) → denL V ys = some (bs.toList.drop j) → (Op.eqItems (d + 1) e 1 as bs (List.range' j xs.length)).run P w = .ok r w
  | [], [], j, l, r, h, _, _ => by
    simp only [eqIs, Option.some.injEq, Prod.mk.injEq] at h
    obtain ⟨rfl, rfl⟩ := h
    simp [Op.eqItems]
  | .int s k a :: xs, y :: ys, j, l, r, h, hx, hy => by
    cases y <;> simp only [eqIs] at h <;> first | (cases h; done) | skip
    rename_i s' k' b
    split at h
    case h_2 => cases h
    rename_i l' r' hk hr
    have := of_decide_eq_true hk
    subst this
    simp only [Option.some.injEq, Prod.mk.injEq] at h
    obtain ⟨rfl, rfl⟩ := h
    simp only [denL, den, Option.bind_some, Option.map_eq_some_iff] at hx hy
    obtain ⟨as', hxs, hxa⟩ := hx
    obtain ⟨bs', hys, hyb⟩ := hy
    have ga : as[j]? = some (.int k a) := by
      have : (as.toList.drop j)[0]? = some (.int k a) := by rw [← hxa]; rfl
      simpa using this
    have gb : bs[j]? = some (.int k b) := by
      have : (bs.toList.drop j)[0]? = some (.int k b) := by rw [← hyb]; rfl
      simpa using this
    have da : as' = as.toList.drop (j + 1) := by
      have := congrArg (List.drop 1) hxa
      simpa using this
    have db : bs' = bs.toList.drop (j + 1) := by
      have := congrArg (List.drop 1) hyb
      simpa using this
    have hagg : aggD (.int k0) = false := rfl
    have ih := run_eqItems_ints d he as bs xs ys (j + 1) l' r' hr (da ▸ hxs) (db ▸ hys)
    have pa : (part e as (j * 1)).run P w = .ok (.int k a) w := by
      simp only [Nat.mul_one, part, Sem.run_bind, run_isAgg he, hagg, Result.andThen_ok, Bool.false_eq_true, if_false, ga, Sem.run_pure]
    have pb : (part e bs (j * 1)).run P w = .ok (.int k b) w := by
      simp only [Nat.mul_one, part, Sem.run_bind, run_isAgg he, hagg, Result.andThen_ok, Bool.false_eq_true, if_false, gb, Sem.run_pure]
    simp only [List.length_cons, List.range'_succ, Op.eqItems, Sem.run_bind, pa, pb, Result.andThen_ok, run_equalIn_int w d e k k0 a b he]
    cases hab : (a == b) with
    | true => simp [ih]
    | false => simp
  | [], _ :: _, _, _, _, h, _, _ => by simp [eqIs] at h
  | x :: _, [], _, _, _, h, _, _ => by cases x <;> simp [eqIs] at h
  | .bool .. :: _, _ :: _, _, _, _, h, _, _ => by simp [eqIs] at h
  | .ptr .. :: _, _ :: _, _, _, _, h, _, _ => by simp [eqIs] at h
  | .slc .. :: _, _ :: _, _, _, _, h, _, _ => by simp [eqIs] at h
  | .agg .. :: _, _ :: _, _, _, _, h, _, _ => by simp [eqIs] at h
  | .tup .. :: _, _ :: _, _, _, _, h, _, _ => by simp [eqIs] at h
  | .fn .. :: _, _ :: _, _, _, _, h, _, _ => by simp [eqIs] at h
  | .ifc .. :: _, _ :: _, _, _, _, h, _, _ => by simp [eqIs] at h
  | .raw .. :: _, _ :: _, _, _, _, h, _, _ => by simp [eqIs] at h
  | .buf .. :: _, _ :: _, _, _, _, h, _, _ => by simp [eqIs] at h
  | .bptr .. :: _, _ :: _, _, _, _, h, _, _ => by simp [eqIs] at h
  | .bslc .. :: _, _ :: _, _, _, _, h, _, _ => by simp [eqIs] at h
  | .slcR .. :: _, _ :: _, _, _, _, h, _, _ => by simp [eqIs] at h

theorem eSame_ok (hty : TyOK P Γ) (hsum : SumsOK P Γ) (ht : TmpOK V g a) (hg : GlobOK Γ V) {T' : Tab} (hsub : ∀ l B, T' l = some B → T l = some B) (hT : TabOK w0 M V T w) {op : BinOp} {t t2 : TypeId} {x y : Operand} (hop : o.op = .binOp op t x y t2)
    (he : eSame Γ g T' op t x y = some e) (lab : Nat) : Sim P w0 M V T lab e o a w := by
  have fin : ∀ {u v : Value} {b : Bool}, a.eval x = u → a.eval y = v → (Op.equal t u v).run P w = .ok b w → (binOp .eql t u v = (do pure (.bool (← Op.equal t u v))) ∧ binOp .neq t u v = (do pure (.bool (!(← Op.equal t u v))))) →
      ¬ (u = .nilIface ∧ v = .nilIface) → (∀ cs, u ≠ .agg cs) → eqlB op b = some e → Sim P w0 M V T lab e o a w := by
    intro u v b hu hv hr hb hn1 hn2 he
    have hg0 := run_eqGuard_other (P := P) w op t x y u v hn1 hn2
    have hx : ∃ z, ((do eqGuard op t x y u v; binOp op t u v) : Sem Value).run P w = .ok z w ∧ den V e.val = some z ∧ e.new = [] ∧ e.wr = [] := by
      cases op <;> simp only [eqlB] at he <;> first | (cases he; done) | skip
      · simp only [lit, Option.some.injEq] at he; subst he
        exact ⟨.bool b, by rw [Sem.run_bind, hg0, Result.andThen_ok, hb.1, Sem.run_bind, hr]; rfl, rfl, rfl, rfl⟩
      · simp only [lit, Option.some.injEq] at he; subst he
        exact ⟨.bool (!b), by rw [Sem.run_bind, hg0, Result.andThen_ok, hb.2, Sem.run_bind, hr]; rfl, rfl, rfl, rfl⟩
    obtain ⟨z, h1, h2, h3, h4⟩ := hx
    refine sim_pure (x := z) ?_ h2 h3 h4 hT
    unfold execOp
    simp only [hop, hu, hv]
    rw [Sem.run_bind, h1]
    rfl
  unfold eSame at he
  split at he
  · rename_i l s1 off l' s2 off' hx hy
    have ex := ev_ok ht hg hx
    have ey := ev_ok ht hg hy
    simp only [den, Option.map_eq_some_iff] at ex ey
    obtain ⟨p, hp, ex⟩ := ex
    obtain ⟨q, hq, ey⟩ := ey
    split at he
    case h_2 => cases he
    rename_i ti hti
    split at he
    case h_2 => cases he
    rename_i el hd
    split at he
    case h_2 => cases he
    rename_i te hte
    have hu := (hty t ti hti).1
    rw [hd] at hu
    obtain ⟨_, i, z, hi, hsz, _⟩ := hty el te hte
    have heqn : ∀ (n0 : Nat) (b : Bool), (i.size ≠ 0 → (sameAddr ⟨p.1, p.2 + off, none⟩ ⟨q.1, q.2 + off', none⟩).run P w = .ok b w) → (i.size = 0 → ((⟨p.1, p.2 + off, none⟩ : Addr) == ⟨q.1, q.2 + off', none⟩) = true ∧ b = true) →
        (Op.equalIn (n0 + 1) t (.pointer (some ⟨p.1, p.2 + off, none⟩)) (.pointer (some ⟨q.1, q.2 + off', none⟩))).run P w = .ok b w := by
      intro n0 b h1 h2
      simp only [Op.equalIn, Sem.run_bind, run_underlying hu w, Result.andThen_ok, run_sizeOf hi]
      by_cases h0 : i.size = 0
      · rw [if_neg (by simp [h0])]
        obtain ⟨h3, rfl⟩ := h2 h0
        rw [if_pos h3]; rfl
      · rw [if_pos (by simpa using h0)]
        exact h1 h0
    have heq : ∀ (b : Bool), (i.size ≠ 0 → (sameAddr ⟨p.1, p.2 + off, none⟩ ⟨q.1, q.2 + off', none⟩).run P w = .ok b w) → (i.size = 0 → ((⟨p.1, p.2 + off, none⟩ : Addr) == ⟨q.1, q.2 + off', none⟩) = true ∧ b = true) →
        (Op.equal t (.pointer (some ⟨p.1, p.2 + off, none⟩)) (.pointer (some ⟨q.1, q.2 + off', none⟩))).run P w = .ok b w := fun b => heqn 9999 b
    split at he
    · rename_i hll
      have := Nat.eq_of_beq_eq_true hll
      subst this
      rw [hp] at hq; cases hq
      split at he
      · rename_i hoo
        have := Nat.eq_of_beq_eq_true hoo
        subst this
        exact fin ex.symm ey.symm (heq true (fun _ => run_sameAddr_same w _) (fun _ => ⟨by simp, rfl⟩)) ⟨rfl, rfl⟩ (by simp) (by simp) he
      · rename_i hoo
        have hne := beq_false' hoo
        split at he
        · cases he
        · rename_i hz
          have hz := beq_false' hz
          refine fin ex.symm ey.symm (heq false (fun _ => ?_) (fun h => absurd (hsz ▸ h) hz)) ⟨rfl, rfl⟩ (by simp) (by simp) he
          simp [sameAddr]
    · rename_i hll
      have hne := beq_false' hll
      split at he
      case h_2 => cases he
      rename_i B B' hz hB hB'
      have hz := beq_false' hz
      split at he
      case h_2 => cases he
      rename_i hw
      simp only [Bool.and_eq_true] at hw
      obtain ⟨o1, b1, z1, cs1, ty1, h1⟩ := wholeB_ok hw.1 hp (hT.ok l B (hsub l B hB))
      obtain ⟨o2, b2, z2, cs2, ty2, h2⟩ := wholeB_ok hw.2 hq (hT.ok l' B' (hsub l' B' hB'))
      have hbl : p.1 ≠ q.1 := fun e => hT.dist l B l' B' p.1 hne (hsub l B hB) (hsub l' B' hB') o1 b1 (e ▸ b2)
      refine fin ex.symm ey.symm (heq false (fun _ => ?_) (fun h => absurd (hsz ▸ h) hz)) ⟨rfl, rfl⟩ (by simp) (by simp) he
      exact run_sameAddr_other w (by simp) h1 h2
  · rename_i t1 l s1 off t2' l' s2 off' hx hy
    have ex := ev_ok ht hg hx
    have ey := ev_ok ht hg hy
    simp only [den, Option.map_eq_some_iff] at ex ey
    obtain ⟨_, ⟨p, hp, rfl⟩, ex⟩ := ex
    obtain ⟨_, ⟨q, hq, rfl⟩, ey⟩ := ey
    split at he
    case h_2 => cases he
    rename_i ti t1i hti ht1
    split at he
    case h_2 => cases he
    rename_i ms el hd hd1
    split at he
    case h_2 => cases he
    rename_i te hte
    split at he
    case h_2 => cases he
    rename_i hc
    simp only [Bool.and_eq_true] at hc
    obtain ⟨c1, c2, c3, c4⟩ := hc
    have := Nat.eq_of_beq_eq_true c1
    subst this
    have := Nat.eq_of_beq_eq_true c2
    subst this
    have := Nat.eq_of_beq_eq_true c3
    subst this
    rw [hp] at hq; cases hq
    have hu := (hty t ti hti).1
    rw [hd] at hu
    obtain ⟨hu1, i1, z1, hi1, _⟩ := hty t1 t1i ht1
    rw [hd1] at hu1
    obtain ⟨_, i2, z2, hi2, _⟩ := hty el te hte
    have hcmp := hsum.2.2.1 t1 c4 i1 hi1
    exact fin ex.symm ey.symm (run_equalIn_iface_ptr_same w 9998 _ hu hu1 hi1 hcmp hi2) ⟨rfl, rfl⟩ (by simp) (by simp) he
  · rename_i xs ys hx hy
    have ex := ev_ok ht hg hx
    have ey := ev_ok ht hg hy
    simp only [den, Option.map_eq_some_iff] at ex ey
    obtain ⟨as, has, ex⟩ := ex
    obtain ⟨bs, hbs, ey⟩ := ey
    split at he
    case h_2 => cases he
    rename_i ti hti
    split at he
    case h_2 => cases he
    rename_i n el hd
    split at he
    case h_2 => cases he
    rename_i te hte
    split at he
    case h_2 => cases he
    rename_i k0 l r hdk hck heq
    simp only [Bool.and_eq_true] at hck
    have h1 := Nat.eq_of_beq_eq_true hck.1
    have h2 := Nat.eq_of_beq_eq_true hck.2
    have hu := (hty t ti hti).1
    rw [hd] at hu
    obtain ⟨hue, i, z, hi, hsz, _⟩ := hty el te hte
    rw [hdk] at hue
    have hcell : P.cellsOf el = 1 := by simp [Program.cellsOf, hi, hsz, h1]
    have hr : (Op.equal t (.agg as.toArray) (.agg bs.toArray)).run P w = .ok r w := by
      have := run_equalIn_array (P := P) w 9999 as.toArray bs.toArray hu hi
      refine Eq.trans this ?_
      rw [hcell, ← h2, List.range_eq_range']
      exact run_eqItems_ints 9998 hue as.toArray bs.toArray xs ys 0 l r heq (by simpa using has) (by simpa using hbs)
    have hg0 : ∀ op : BinOp, (eqGuard op t x y (.agg as.toArray) (.agg bs.toArray)).run P w = .ok () w := fun op => by
      refine run_eqGuard_agg w op t x y _ _ ?_
      obtain ⟨d, hdep⟩ := hsum.2.2.2
      rw [hdep]
      simp [Program.eqGuardType, hu, hue]
    refine sim_pure (x := match op with | .eql => .bool r | _ => .bool (!r)) ?_ ?_ ?_ ?_ hT
    · unfold execOp
      simp only [hop, ← ex, ← ey]
      cases op <;> simp only [eqBool] at he <;> first | (cases he; done) | skip
      · rw [Sem.run_bind, Sem.run_bind, hg0, Result.andThen_ok]
        show (((do pure (.bool (← Op.equal t (.agg as.toArray) (.agg bs.toArray)))) : Sem Value).run P w).andThen _ = _
        rw [Sem.run_bind, hr]; rfl
      · rw [Sem.run_bind, Sem.run_bind, hg0, Result.andThen_ok]
        show (((do pure (.bool (!(← Op.equal t (.agg as.toArray) (.agg bs.toArray))))) : Sem Value).run P w).andThen _ = _
        rw [Sem.run_bind, hr]; rfl
    all_goals (cases op <;> simp only [eqBool] at he <;> first | (cases he; done) | (cases he; rfl))
  · cases he

/-- ONE OPERATION. -/
theorem opEff_ok (hty : TyOK P Γ) (hsum : SumsOK P Γ) (ht : TmpOK V g a) (hg : GlobOK Γ V) {T' : Tab} (hsub : ∀ l B, T' l = some B → T l = some B) (hT : TabOK w0 M V T w) {lab F : Nat} (hf : V.fresh lab) (hF : V.top F) {h : Option Bool}
    (he : opEff Γ g T' lab F h o = some e) (ho : ∀ q ∈ e.obl, q) : Sim P w0 M V T lab e o a w := by
  unfold opEff at he
  split at he
  · rename_i hop; exact eMove_ok ht hg hT (.inl hop) he lab
  · rename_i hop; exact eMove_ok ht hg hT (.inr hop) he lab
  · rename_i hop; exact ePick_ok ht hg hT hop he lab
  · rename_i hop; exact eAlloc_ok hty hT hop hf he
  · rename_i hop; exact eBox_ok ht hg hT hop hf he
  · rename_i hop; exact eBuild_ok hty ht hg hT hop he lab
  · rename_i hop; exact eBuildSlice_ok hty ht hg hT hop hf he
  · rename_i hop; exact eLoad_ok hty ht hg hsub hT hop he ho lab
  · rename_i hop; exact eStore_ok hty ht hg hsub hT hop he ho lab
  · rename_i hop; exact eNil_ok ht hg hT hop he lab
  · rename_i hop
    split at he
    · unfold orE at he
      split at he
      · rename_i e' he'; cases he; exact eBin_ok hty ht hg hT hop he' ho lab
      · exact eSame_ok hty hsum ht hg hsub hT hop he lab
    · unfold orE at he
      split at he
      · rename_i e' he'; cases he; exact eBin_ok hty ht hg hT hop he' ho lab
      · exact eSame_ok hty hsum ht hg hsub hT hop he lab
    · exact eBin_ok hty ht hg hT hop he ho lab
  · rename_i hop; exact eUn_ok ht hg hT hop he lab
  · rename_i hop; exact eConv_ok hty ht hg hT hop he lab
  · rename_i hop; exact eArr_ok hty ht hg hT hop he lab
  · rename_i hop; exact eMakeIface_ok hty ht hg hT hop he lab
  · rename_i hop; exact eMakeFunc_ok ht hg hT hop he lab
  · rename_i hop; exact eMakeSlice_ok hty ht hg hT hop hf he ho
  · rename_i hop; exact eSlice_ok hty ht hg hsub hT hop he ho lab
  · rename_i hop; exact eField_ok hty ht hg hT hop he lab
  · rename_i hop; exact eFieldV_ok hty ht hg hT hop he lab
  · rename_i hop; exact eIndexAddr_ok hty ht hg hT hop he ho lab
  · rename_i hop; exact eIndexV_ok hty ht hg hT hop he lab
  · rename_i hop; exact eExtract_ok ht hg hT hop he lab
  · rename_i hop; exact eCall_ok hty hsum ht hg hsub hT hf hF hop he ho
  · cases he

end Ops
end Go.Proofs.YtaibhjpgbckbkaaGreatDoor.Sx

/- The symbolic executor, fifteenth text: states; a statement whose order is not drawn. -/
open Go
namespace Go.Proofs.YtaibhjpgbckbkaaGreatDoor.Sx

/-- A table by number, as a tree. -/
inductive Tr (α : Type) where
  | lf
  | nd (l : Tr α) (v : Option α) (r : Tr α)

/- The next four by recursors: so the kernel reckons them with little work. -/
noncomputable def Tr.get {α : Type} (t : Tr α) : Nat → Option α := Tr.rec (motive := fun _ => Nat → Option α) (fun _ => none)
  (fun _ v _ ihl ihr n => Bool.rec (Bool.rec (ihr (n / 2 - 1)) (ihl (n / 2)) (Nat.beq (n % 2) 1)) v (Nat.beq n 0)) t

/-- A new branch. -/
noncomputable def Tr.new {α : Type} (v : α) (f : Nat) : Nat → Tr α := Nat.rec (motive := fun _ => Nat → Tr α) (fun _ => .nd .lf (some v) .lf)
  (fun _ ih n => Bool.rec (Bool.rec (.nd .lf none (ih (n / 2 - 1))) (.nd (ih (n / 2)) none .lf) (Nat.beq (n % 2) 1)) (.nd .lf (some v) .lf) (Nat.beq n 0)) f

noncomputable def Tr.put {α : Type} (v : α) (f : Nat) (t : Tr α) : Nat → Option (Tr α) := Tr.rec (motive := fun _ => Nat → Option (Tr α)) (fun n => Bool.rec none (some (Tr.new v f n)) (Nat.ble (n + 1) (2 ^ f)))
  (fun l u r ihl ihr n => Bool.rec (Bool.rec (Option.rec none (fun r' => some (.nd l u r')) (ihr (n / 2 - 1))) (Option.rec none (fun l' => some (.nd l' u r)) (ihl (n / 2))) (Nat.beq (n % 2) 1)) (some (.nd l (some v) r)) (Nat.beq n 0)) t

theorem Tr.get_lf {α : Type} (n : Nat) : (Tr.lf : Tr α).get n = none := rfl
theorem Tr.get_nd {α : Type} (l r : Tr α) (v : Option α) (n : Nat) : (Tr.nd l v r).get n = if n = 0 then v else if n % 2 = 1 then l.get (n / 2) else r.get (n / 2 - 1) := by
  show Bool.rec (motive := fun _ => Option α) (Bool.rec (motive := fun _ => Option α) (r.get (n / 2 - 1)) (l.get (n / 2)) (Nat.beq (n % 2) 1)) v (Nat.beq n 0) = _
  by_cases h0 : n = 0
  · subst h0; rfl
  · rw [if_neg h0]
    have e0 : Nat.beq n 0 = false := by
      cases hb : Nat.beq n 0 with
      | false => rfl
      | true => exact absurd (Nat.eq_of_beq_eq_true hb) h0
    rw [e0]
    by_cases h1 : n % 2 = 1
    · rw [if_pos h1, h1]; rfl
    · rw [if_neg h1]
      have e1 : Nat.beq (n % 2) 1 = false := by
        cases hb : Nat.beq (n % 2) 1 with
        | false => rfl
        | true => exact absurd (Nat.eq_of_beq_eq_true hb) h1
      rw [e1]

theorem beq_false {a b : Nat} (h : Nat.beq a b = false) : a ≠ b := fun e => by subst e; rw [Nat.beq_refl] at h; cases h

theorem Tr.get_new {α : Type} (v : α) : ∀ (f n m : Nat), n < 2 ^ f → (Tr.new v f n).get m = if m = n then some v else none
  | 0, n, m, h => by
    have h0 : n = 0 := by simpa using h
    subst h0
    show (Tr.nd .lf (some v) .lf).get m = _
    rw [Tr.get_nd, Tr.get_lf, Tr.get_lf]
    split
    · rfl
    · split <;> rfl
  | f + 1, n, m, h => by
    have h2 : n / 2 < 2 ^ f := by rw [Nat.pow_succ] at h; omega
    show Tr.get (Bool.rec (motive := fun _ => Tr α) (Bool.rec (motive := fun _ => Tr α) (.nd .lf none (Tr.new v f (n / 2 - 1))) (.nd (Tr.new v f (n / 2)) none .lf) (Nat.beq (n % 2) 1)) (.nd .lf (some v) .lf) (Nat.beq n 0)) m = _
    cases h0 : Nat.beq n 0 with
    | true =>
      have := Nat.eq_of_beq_eq_true h0
      subst this
      show (Tr.nd .lf (some v) .lf).get m = _
      rw [Tr.get_nd, Tr.get_lf, Tr.get_lf]
      split
      · rfl
      · split <;> rfl
    | false =>
      have hn0 := beq_false h0
      cases h1 : Nat.beq (n % 2) 1 with
      | true =>
        have hn1 := Nat.eq_of_beq_eq_true h1
        show (Tr.nd (Tr.new v f (n / 2)) none .lf).get m = _
        rw [Tr.get_nd, Tr.get_lf, Tr.get_new v f _ _ h2]
        by_cases e : m = n
        · subst e; rw [if_neg hn0, if_pos hn1, if_pos rfl, if_pos rfl]
        · rw [if_neg e]
          split
          · rfl
          · split
            · rw [if_neg (by omega)]
            · rfl
      | false =>
        have hn1 := beq_false h1
        show (Tr.nd .lf none (Tr.new v f (n / 2 - 1))).get m = _
        rw [Tr.get_nd, Tr.get_lf, Tr.get_new v f _ _ (by omega)]
        by_cases e : m = n
        · subst e; rw [if_neg hn0, if_neg hn1, if_pos rfl, if_pos rfl]
        · rw [if_neg e]
          split
          · rfl
          · split
            · rfl
            · rw [if_neg (by omega)]

theorem Tr.get_put {α : Type} (v : α) (f : Nat) (t : Tr α) : ∀ (n : Nat) (t' : Tr α), Tr.put v f t n = some t' → ∀ m, t'.get m = if m = n then some v else t.get m := by
  induction t with
  | lf =>
    intro n t' h m
    have h : Bool.rec (motive := fun _ => Option (Tr α)) none (some (Tr.new v f n)) (Nat.ble (n + 1) (2 ^ f)) = some t' := h
    cases hb : Nat.ble (n + 1) (2 ^ f) with
    | false => rw [hb] at h; cases h
    | true =>
      rw [hb] at h
      cases h
      have := Nat.le_of_ble_eq_true hb
      rw [Tr.get_new v f n m (by omega), Tr.get_lf]
  | nd l u r ihl ihr =>
    intro n t' h m
    have h : Bool.rec (motive := fun _ => Option (Tr α)) (Bool.rec (motive := fun _ => Option (Tr α)) (Option.rec (motive := fun _ => Option (Tr α)) none (fun r' => some (.nd l u r')) (Tr.put v f r (n / 2 - 1))) (Option.rec (motive := fun _ => Option (Tr α)) none (fun l' => some (.nd l' u r)) (Tr.put v f l (n / 2))) (Nat.beq (n % 2) 1)) (some (.nd l (some v) r)) (Nat.beq n 0) = some t' := h
    cases h0 : Nat.beq n 0 with
    | true =>
      rw [h0] at h
      cases h
      have := Nat.eq_of_beq_eq_true h0
      subst this
      rw [Tr.get_nd, Tr.get_nd]
      by_cases e : m = 0
      · subst e; rfl
      · rw [if_neg e, if_neg e, if_neg e]
    | false =>
      have hn0 := beq_false h0
      rw [h0] at h
      cases h1 : Nat.beq (n % 2) 1 with
      | true =>
        have hn1 := Nat.eq_of_beq_eq_true h1
        rw [h1] at h
        cases hp : Tr.put v f l (n / 2) with
        | none => rw [hp] at h; cases h
        | some l' =>
          rw [hp] at h
          cases h
          have ih := ihl (n / 2) l' hp
          rw [Tr.get_nd, Tr.get_nd]
          by_cases e : m = n
          · subst e; rw [if_neg hn0, if_pos hn1, ih, if_pos rfl, if_pos rfl]
          · rw [if_neg e]
            split
            · rfl
            · split
              · rw [ih, if_neg (by omega)]
              · rfl
      | false =>
        have hn1 := beq_false h1
        rw [h1] at h
        cases hp : Tr.put v f r (n / 2 - 1) with
        | none => rw [hp] at h; cases h
        | some r' =>
          rw [hp] at h
          cases h
          have ih := ihr (n / 2 - 1) r' hp
          rw [Tr.get_nd, Tr.get_nd]
          by_cases e : m = n
          · subst e; rw [if_neg hn0, if_neg hn1, ih, if_pos rfl, if_pos rfl]
          · rw [if_neg e]
            split
            · rfl
            · split
              · rfl
              · rw [ih, if_neg (by omega)]

/-- A state: the temporaries, the blocks over the table that the call began with, the next label, the old labels that hold something else, what is owed. -/
structure St where
  g : Tr SV
  tb : Tr SB
  nx : Nat
  ws : List Nat
  ob : List Prop
  df : List SV := []
  hs : List Bool := []

/-- The table of a state. -/
noncomputable def St.T (B : Tab) (s : St) : Tab := fun l => match s.tb.get l with
  | some b => some b
  | none => B l

noncomputable def putB (F0 : Nat) : List (Nat × SB) → Tr SB → List Nat → Option (Tr SB × List Nat)
  | [], t, ws => some (t, ws)
  | (l, b) :: r, t, ws => match putB F0 r t ws with
    | none => none
    | some (t, ws) => match Tr.put b 64 t l with
      | none => none
      | some t => some (t, match Nat.blt l F0, ws.elem l with
        | true, false => l :: ws
        | _, _ => ws)

theorem putB_get {F0 : Nat} : ∀ {r : List (Nat × SB)} {t t' : Tr SB} {ws ws' : List Nat}, putB F0 r t ws = some (t', ws') →
    (∀ l, t'.get l = match look l r with | some b => some b | none => t.get l) ∧ (∀ l, l ∈ ws → l ∈ ws') ∧ (∀ l b, look l r = some b → l < F0 → l ∈ ws')
  | [], t, t', ws, ws', h => by
    simp only [putB, Option.some.injEq, Prod.mk.injEq] at h
    obtain ⟨rfl, rfl⟩ := h
    exact ⟨fun l => rfl, fun l hl => hl, fun l b hl => by cases hl⟩
  | (k, c) :: r, t, t', ws, ws', h => by
    simp only [putB] at h
    split at h
    · cases h
    · rename_i t1 ws1 h1
      obtain ⟨i1, i2, i3⟩ := putB_get h1
      split at h
      · cases h
      · rename_i t2 h2
        simp only [Option.some.injEq, Prod.mk.injEq] at h
        obtain ⟨rfl, hws⟩ := h
        have hg := Tr.get_put c 64 t1 k t2 h2
        have hsub : ∀ l, l ∈ ws1 → l ∈ ws' := by
          intro l hl
          rw [← hws]
          split
          · exact List.mem_cons_of_mem _ hl
          · exact hl
        have hk : k < F0 → k ∈ ws' := by
          intro hlt
          rw [← hws]
          split
          · exact List.mem_cons_self
          · rename_i hno
            have hb : Nat.blt k F0 = true := by simpa [Nat.blt_eq] using hlt
            cases he : ws1.elem k with
            | true => simpa using he
            | false => exact (hno hb he).elim
        refine ⟨fun l => ?_, fun l hl => hsub l (i2 l hl), fun l b hl hlt => ?_⟩
        · rw [hg l]
          by_cases e : k = l
          · subst e; rw [look_cons_eq, if_pos rfl]
          · rw [look_cons_ne e, if_neg (fun x => e x.symm)]; exact i1 l
        · by_cases e : k = l
          · subst e; exact hk hlt
          · rw [look_cons_ne e] at hl
            exact hsub l (i3 l b hl hlt)

/-- A state behind an operation. -/
noncomputable def St.step (F0 N : Nat) (s : St) (dst : Option Tmp) (e : Eff) (lab nx : Nat) : Option St :=
  match putB F0 (e.tab lab) s.tb s.ws, Nat.ble e.new.length 8 && e.wr.all (fun p => Nat.blt p.1 nx) with
  | some (tb, ws), true => match dst with
    | none => some { g := s.g, tb := tb, nx := nx, ws := ws, ob := e.obl ++ s.ob, df := s.df, hs := s.hs }
    | some d => match Tr.put e.val 64 s.g d, Nat.blt d N with
      | some g, true => some { g := g, tb := tb, nx := nx, ws := ws, ob := e.obl ++ s.ob, df := s.df, hs := s.hs }
      | _, _ => none
  | _, _ => none

/-- Is an operation wanted? -/
def wantedS (ops : Array Oper) (g : Nat → Option SV) (o : Oper) : Option Bool :=
  match o.guard with
  | none => some true
  | some (j, want) => match (ops[j]?).bind (·.dst) with
    | none => none
    | some d => match g d with
      | some (.bool true b) => some (b == want)
      | some (.raw v) => match v with
        | .bool _ => none
        | _ => some false
      | _ => none

theorem St.step_df {F0 N : Nat} {s s' : St} {dst : Option Tmp} {e : Eff} {lab nx : Nat} (h : s.step F0 N dst e lab nx = some s') : s'.df = s.df := by
  unfold St.step at h
  split at h
  · split at h
    · cases h; rfl
    · split at h
      · cases h; rfl
      · cases h
  · cases h

/-- A deferred call, as a function value. -/
def toD : Value → Deferred
  | .func f xs ys => { target := .fn f ys, args := xs }
  | _ => { target := .nil, args := #[] }

/-- What a state says of the program's: 'B', 'V0', 'F0': the table, the valuation, the first free label with which the call began. -/
structure Inv (P : Program) (Γ : Env) (w0 : World) (M : Nat → Prop) (B : Tab) (N F0 : Nat) (V0 : Val) (s : St) (V : Val) (a : Act) (w : World) : Prop where
  tmp : TmpOK V s.g.get a
  keys : ∀ d v, s.g.get d = some v → d < N
  size : N ≤ a.tmps.size
  defers : ∃ xs, denL V s.df = some xs ∧ a.defers = xs.map toD
  tab : TabOK w0 M V (s.T B) w
  glob : GlobOK Γ V
  top : V.top s.nx
  le : V0.le V
  low : ∀ l, l < F0 → V.β l = V0.β l ∧ V.σ l = V0.σ l
  ch : ∀ l, l < F0 → l ∉ s.ws → s.tb.get l = none
  nx : F0 ≤ s.nx
  hi : ∀ l, s.nx ≤ l → s.T B l = none

theorem Val.top.fresh {V : Val} {F : Nat} (h : V.top F) : V.fresh F := fun l h1 _ => h l h1
theorem Val.top.mono {V : Val} {F F' : Nat} (h : V.top F) (hl : F ≤ F') : V.top F' := fun l h1 => h l (Nat.le_trans hl h1)

theorem wantedS_ok {ops : Array Oper} {V : Val} {g : Nat → Option SV} {a : Act} (ht : TmpOK V g a) (hs : ∀ d v, g d = some v → d < a.tmps.size) {o : Oper} {b : Bool} (h : wantedS ops g o = some b) : Region.wanted o (yielded ops a.tmps) = b := by
  unfold wantedS at h
  unfold Region.wanted
  split at h
  · rename_i hg; simp only [Option.some.injEq] at h; subst h; rw [hg]
  · rename_i j want hg
    rw [hg]
    split at h
    · cases h
    · rename_i d hd
      split at h
      · rename_i c hc
        simp only [Option.some.injEq] at h
        subst h
        have hv := ht d _ hc
        have hlt := hs d _ hc
        simp only [den, Option.some.injEq, Act.eval] at hv
        have hget : a.tmps[d]? = some (.bool c) := by
          rw [Array.getElem?_eq_getElem hlt]
          rw [Array.getD_eq_getD_getElem?, Array.getElem?_eq_getElem hlt, Option.getD_some] at hv
          rw [hv]
        simp only [yielded, hd, Option.bind_some, hget]
        cases c <;> cases want <;> rfl
      · rename_i v hc
        split at h
        · cases h
        · rename_i hnb
          simp only [Option.some.injEq] at h
          subst h
          have hv := ht d _ hc
          have hlt := hs d _ hc
          simp only [den, Option.some.injEq, Act.eval] at hv
          have hget : a.tmps[d]? = some v := by
            rw [Array.getElem?_eq_getElem hlt]
            rw [Array.getD_eq_getD_getElem?, Array.getElem?_eq_getElem hlt, Option.getD_some] at hv
            rw [hv]
          have hy : yielded ops a.tmps j = none := by
            simp only [yielded, hd, Option.bind_some, hget]
            split
            · rename_i b' hq; cases hq; exact absurd rfl (hnb b')
            · rfl
          show (yielded ops a.tmps j == some want) = false
          rw [hy]
          rfl
      · cases h

theorem St.step_T {F0 N : Nat} {s s' : St} {dst : Option Tmp} {e : Eff} {lab nx : Nat} (B : Tab) (h : s.step F0 N dst e lab nx = some s') :
    s'.T B = upd (s.T B) lab e ∧ s'.nx = nx ∧ s'.ob = e.obl ++ s.ob ∧ (∀ l, l ∈ s.ws → l ∈ s'.ws) ∧ (∀ l, l < F0 → l ∉ s'.ws → s.tb.get l = none → s'.tb.get l = none) ∧
      (∀ m, s'.g.get m = if dst = some m then some e.val else s.g.get m) ∧ (∀ d, dst = some d → d < N) ∧ e.new.length ≤ 8 ∧ (∀ l b, look l e.wr = some b → l < nx) := by
  unfold St.step at h
  split at h
  case h_2 => cases h
  rename_i tb ws hp hck
  obtain ⟨i1, i2, i3⟩ := putB_get hp
  simp only [Bool.and_eq_true] at hck
  have hck1 := Nat.le_of_ble_eq_true hck.1
  have hck2 : ∀ l b, look l e.wr = some b → l < nx := fun l b hl => by
    have := List.all_eq_true.1 hck.2 _ (look_mem hl)
    simpa [Nat.blt_eq] using this
  have hT : ∀ g nx ob df hs, (St.mk g tb nx ws ob df hs).T B = upd (s.T B) lab e := by
    intro g nx ob df hs
    funext l
    simp only [St.T, upd, i1 l]
    cases look l (e.tab lab) <;> rfl
  have hch : ∀ l, l < F0 → l ∉ ws → s.tb.get l = none → tb.get l = none := by
    intro l hl hn h0
    rw [i1 l]
    cases hk : look l (e.tab lab) with
    | none => exact h0
    | some b => exact (hn (i3 l b hk hl)).elim
  split at h
  · simp only [Option.some.injEq] at h
    subst h
    exact ⟨hT _ _ _ _ _, rfl, rfl, i2, hch, fun m => by simp, (fun d hd => by cases hd), hck1, hck2⟩
  · rename_i d
    split at h
    · rename_i g hg hlt
      simp only [Option.some.injEq] at h
      subst h
      refine ⟨hT _ _ _ _ _, rfl, rfl, i2, hch, fun m => ?_, fun d' hd' => ?_, hck1, hck2⟩
      · rw [Tr.get_put _ _ _ _ _ hg m]
        by_cases e : m = d
        · subst e; simp
        · rw [if_neg e, if_neg (by simp; exact fun x => e x.symm)]
      · cases hd'; simpa [Nat.blt_eq] using hlt
    · cases h

theorem Inv.step {P : Program} {Γ : Env} {w0 w w' : World} {M : Nat → Prop} {B : Tab} {N F0 : Nat} {V0 V V' : Val} {s s' : St} {a : Act} {dst : Option Tmp} {e : Eff} {x : Value} {lab nx : Nat}
    (h : Inv P Γ w0 M B N F0 V0 s V a w) (hs : s.step F0 N dst e lab nx = some s') (hle : s.nx ≤ lab) (hn : lab + 8 ≤ nx) (hV : V.ext lab V') (hx : dst.isSome = true → den V' e.val = some x)
    (hT : TabOK w0 M V' (upd (s.T B) lab e) w') : Inv P Γ w0 M B N F0 V0 s' V' (a.put dst x) w' := by
  obtain ⟨h1, h2, h3, h4, h5, h6, h7, h8, h9⟩ := St.step_T B hs
  refine ⟨fun t v hv => ?_, fun d v hv => ?_, ?_, ?_, by rw [h1]; exact hT, fun n l hl => hV.1.1 _ _ (h.glob n l hl), fun l hl => ?_, Val.le_trans h.le hV.1, fun l hl => ?_, fun l hl hw => ?_, ?_, fun l hl => ?_⟩
  · rw [h6] at hv
    by_cases hd : dst = some t
    · subst hd
      simp only [if_true, Option.some.injEq] at hv
      subst hv
      have hlt : t < a.tmps.size := Nat.lt_of_lt_of_le (h7 t rfl) h.size
      rw [hx rfl]
      simp [Act.eval, Act.put, Array.getD_eq_getD_getElem?, hlt]
    · rw [if_neg hd] at hv
      rw [den_mono hV.1 (h.tmp t v hv)]
      rw [Act.eval_put (fun d hd' hq => hd (by cases hq; exact hd'))]
  · rw [h6] at hv
    by_cases hd : dst = some d
    · exact h7 d hd
    · rw [if_neg hd] at hv; exact h.keys d v hv
  · cases dst with
    | none => exact h.size
    | some d => simpa [Act.put] using h.size
  · obtain ⟨xs, hx1, hx2⟩ := h.defers
    refine ⟨xs, by rw [St.step_df hs]; exact denL_mono hV.1 hx1, ?_⟩
    cases dst <;> exact hx2
  · rw [h2] at hl
    have := hV.2 l (.inr (by omega))
    rw [this.1, this.2]
    exact h.top l (by omega)
  · have := hV.2 l (.inl (by have := h.nx; omega))
    rw [this.1, this.2]
    exact h.low l hl
  · exact h5 l hl hw (h.ch l hl (fun q => hw (h4 l q)))
  · rw [h2]; have := h.nx; omega
  · rw [h2] at hl
    rw [h1]
    unfold upd Eff.tab
    rw [look_append]
    cases hk : look l e.wr with
    | some b => have := h9 l b hk; omega
    | none =>
      have : look l (newL lab e.new) = none := by
        rw [look_newL]
        split
        · apply List.getElem?_eq_none; omega
        · rfl
      simp only [this]
      exact h.hi l (by omega)

/-- The call that is put off. -/
def deferV (Γ : Env) (g : Nat → Option SV) (c : Call) : Option SV := match evL Γ g c.args.toList, c.callee with
  | some vs, .value f => match ev Γ g f with
    | some (.fn f first capt) => some (.fn f (first ++ vs) capt)
    | _ => none
  | _, _ => none

theorem deferV_ok {P : Program} {Γ : Env} {V : Val} {g : Nat → Option SV} {a : Act} {w : World} (ht : TmpOK V g a) (hg : GlobOK Γ V) {c : Call} {o : Oper} (hop : o.op = .defer c) {v : SV} (h : deferV Γ g c = some v) :
    ∃ x, den V v = some x ∧ (execOp a.eval o).run P w = .ok (.defer (toD x)) w := by
  unfold deferV at h
  split at h
  case h_2 => cases h
  rename_i vs f hvs hc
  split at h
  case h_2 => cases h
  rename_i f' first capt hf
  cases h
  have hd := evL_list ht hg hvs
  have ef := ev_ok ht hg hf
  simp only [den, Option.bind_eq_some_iff, Option.map_eq_some_iff] at ef
  obtain ⟨xf, hxf, xc, hxc, ef⟩ := ef
  refine ⟨.func f' (xf ++ (c.args.map a.eval).toList).toArray xc.toArray, by simp only [den, denL_append hxf hd, hxc, Option.bind_some, Option.map_some], ?_⟩
  unfold execOp
  simp only [hop, resolve, hc, ← ef, Deferred.ofValue, Sem.run_bind, Sem.run_pure, Result.andThen_ok, toD]
  have : (xf ++ (c.args.map a.eval).toList).toArray = xf.toArray ++ c.args.map a.eval := by
    apply Array.ext'; simp
  rw [this]

/-- A statement, its operations one behind the other. -/
noncomputable def seqR (Γ : Env) (B : Tab) (F0 N : Nat) (ops : Array Oper) : List Oper → St → Option St
  | [], s => some s
  | o :: r, s => match wantedS ops s.g.get o with
    | some true => match o.op with
      | .defer c => match deferV Γ s.g.get c with
        | some v => match s.step F0 N o.dst { val := .raw undef } s.nx (s.nx + 8) with
          | some s' => seqR Γ B F0 N ops r { s' with df := v :: s'.df }
          | none => none
        | none => none
      | _ => match opEff Γ s.g.get (s.T B) s.nx (s.nx + 8) none o with
        | some e => match s.step F0 N o.dst e s.nx (s.nx + 8) with
          | some s' => seqR Γ B F0 N ops r s'
          | none => none
        | none => none
    | some false => match s.step F0 N o.dst { val := .raw undef } s.nx (s.nx + 8) with
      | some s' => seqR Γ B F0 N ops r s'
      | none => none
    | none => none

theorem seqR_ob {Γ : Env} {B : Tab} {F0 N : Nat} {ops : Array Oper} : ∀ {l : List Oper} {s s' : St}, seqR Γ B F0 N ops l s = some s' → ∀ q ∈ s.ob, q ∈ s'.ob
  | [], s, s', h, q, hq => by simp only [seqR, Option.some.injEq] at h; subst h; exact hq
  | o :: r, s, s', h, q, hq => by
    unfold seqR at h
    split at h
    · split at h
      · split at h
        · split at h
          · rename_i s1 h1
            have := (St.step_T B h1).2.2.1
            exact seqR_ob h q (by show q ∈ s1.ob; rw [this]; exact List.mem_append_right _ hq)
          · cases h
        · cases h
      · split at h
        · split at h
          · rename_i s1 h1
            have := (St.step_T B h1).2.2.1
            exact seqR_ob h q (by rw [this]; exact List.mem_append_right _ hq)
          · cases h
        · cases h
    · split at h
      · rename_i s1 h1
        have := (St.step_T B h1).2.2.1
        exact seqR_ob h q (by rw [this]; exact List.mem_append_right _ hq)
      · cases h
    · cases h

theorem seqR_ok {P : Program} {Γ : Env} {w0 : World} {M : Nat → Prop} {B : Tab} {N F0 : Nat} {V0 : Val} (hty : TyOK P Γ) (hsum : SumsOK P Γ) {ops : Array Oper} {Q : Exit → Act → World → Prop} :
    ∀ {l : List Oper} {s s' : St} {V : Val} {a : Act} {w : World}, seqR Γ B F0 N ops l s = some s' → (∀ q ∈ s'.ob, q) → Inv P Γ w0 M B N F0 V0 s V a w →
      (∀ V' a' w', Inv P Γ w0 M B N F0 V0 s' V' a' w' → Q .normal a' w') → wpList P ops Q l a w
  | [], s, s', V, a, w, h, ho, hi, hQ => by
    simp only [seqR, Option.some.injEq] at h
    subst h
    exact wpList_nil (hQ V a w hi)
  | o :: r, s, s', V, a, w, h, ho, hi, hQ => by
    unfold seqR at h
    split at h
    · rename_i hw
      have hw := wantedS_ok hi.tmp (fun d v hd => Nat.lt_of_lt_of_le (hi.keys d v hd) hi.size) hw
      split at h
      · rename_i c hop
        split at h
        case h_2 => cases h
        rename_i v hv
        split at h
        case h_2 => cases h
        rename_i s1 h1
        refine wpList_step fun K hK => ?_
        rw [if_pos hw]
        obtain ⟨x, hx, hr⟩ := deferV_ok (P := P) (w := w) hi.tmp hi.glob hop hv
        unfold Oper.wp
        rw [hr, Oper.upon_defer]
        have h2 := hi.step (a := a) (w' := w) (x := undef) h1 (Nat.le_refl _) (Nat.le_refl _) (V.ext_refl _) (fun _ => rfl) (by rw [upd_none _ _ rfl rfl]; exact hi.tab)
        refine hK _ _ (seqR_ok hty hsum h ho ⟨?_, h2.keys, ?_, ?_, h2.tab, h2.glob, h2.top, h2.le, h2.low, h2.ch, h2.nx, h2.hi⟩ hQ)
        · intro t v' hv'
          have := h2.tmp t v' hv'
          rw [this]
          cases o.dst <;> rfl
        · have := h2.size; cases ho : o.dst <;> (rw [ho] at this; exact this)
        · obtain ⟨xs, hx1, hx2⟩ := h2.defers
          refine ⟨x :: xs, by simp only [denL, hx, hx1, Option.bind_some, Option.map_some], ?_⟩
          simp only [List.map_cons, ← hx2]
          cases o.dst <;> rfl
      · split at h
        case h_2 => cases h
        rename_i e he
        split at h
        case h_2 => cases h
        rename_i s1 h1
        have hob : ∀ q ∈ e.obl, q := fun q hq => ho q (seqR_ob h q (by rw [(St.step_T B h1).2.2.1]; exact List.mem_append_left _ hq))
        refine wpList_step fun K hK => ?_
        rw [if_pos hw]
        refine opEff_ok hty hsum hi.tmp hi.glob (T' := s.T B) (fun _ _ h => h) hi.tab hi.top.fresh (hi.top.mono (by omega)) he hob K Q fun V' x w' hV hx hT => hK _ _ ?_
        exact seqR_ok hty hsum h ho (hi.step h1 (Nat.le_refl _) (Nat.le_refl _) hV (fun _ => hx) hT) hQ
    · rename_i hw
      have hw := wantedS_ok hi.tmp (fun d v hd => Nat.lt_of_lt_of_le (hi.keys d v hd) hi.size) hw
      split at h
      case h_2 => cases h
      rename_i s1 h1
      refine wpList_step fun K hK => ?_
      rw [if_neg (by rw [hw]; simp)]
      refine hK _ _ (seqR_ok hty hsum h ho (hi.step h1 (Nat.le_refl _) (Nat.le_refl _) (V.ext_refl _) (fun _ => rfl) ?_) hQ)
      rw [upd_none _ _ rfl rfl]
      exact hi.tab
    · cases h

end Go.Proofs.YtaibhjpgbckbkaaGreatDoor.Sx

/- The symbolic executor, sixteenth text: a statement whose order is drawn: whatever the order, the same blocks, the same temporaries. -/
open Go
namespace Go.Proofs.YtaibhjpgbckbkaaGreatDoor.Sx

/-- Operations that do not look at the table. -/
def pureOp : Op → Bool
  | .binOp .eql .. | .binOp .neq .. => false
  | .move _ | .assign _ | .pick .. | .alloc _ | .box .. | .build .. | .buildSlice .. | .nilCheck _ | .binOp .. | .unOp .. | .convert .. | .sliceToArrayPointer .. | .makeInterface .. | .makeFunc .. | .makeSlice .. | .fieldAddr .. | .field .. | .indexAddr .. | .index .. | .extract .. => true
  | _ => false

theorem pureOp_ok {Γ : Env} {g : Nat → Option SV} {T T' : Tab} {lab F : Nat} {h : Option Bool} {o : Oper} (hp : pureOp o.op = true) : opEff Γ g T lab F h o = opEff Γ g T' lab F h o := by
  unfold opEff
  cases hop : o.op
  case binOp op t x y t2 =>
    cases op <;> simp only [hop, pureOp] at hp <;> first | rfl | cases hp
  all_goals (simp only [hop, pureOp] at hp; first | rfl | cases hp)

/-- All that is ahead of an operation, as bits. -/
def maskOf (ms : List Nat) : List Edge → Option Nat
  | [] => some 0
  | e :: r => match Region.binds .any e with
    | true => match ms[e.on]?, maskOf ms r with
      | some m, some k => some ((m ||| (1 <<< e.on)) ||| k)
      | _, _ => none
    | false => maskOf ms r

theorem testBit_one_shift (i k : Nat) : (1 <<< i).testBit k = decide (k = i) := by
  rw [Nat.one_shiftLeft, Nat.testBit_two_pow]
  simp [eq_comm]

theorem maskOf_bit {ms : List Nat} : ∀ {es : List Edge} {m : Nat}, maskOf ms es = some m → ∀ k, m.testBit k = true →
    ∃ e ∈ es, Region.binds .any e = true ∧ (k = e.on ∨ ∃ me, ms[e.on]? = some me ∧ me.testBit k = true)
  | [], m, h, k, hk => by simp only [maskOf, Option.some.injEq] at h; subst h; simp at hk
  | e :: r, m, h, k, hk => by
    simp only [maskOf] at h
    split at h
    · rename_i hb
      split at h
      · rename_i me mr hme hmr
        simp only [Option.some.injEq] at h
        subst h
        simp only [Nat.testBit_or, Bool.or_eq_true, testBit_one_shift, decide_eq_true_eq] at hk
        rcases hk with (hk | hk) | hk
        · exact ⟨e, by simp, hb, .inr ⟨me, hme, hk⟩⟩
        · exact ⟨e, by simp, hb, .inl hk⟩
        · obtain ⟨e', he', h1, h2⟩ := maskOf_bit hmr k hk
          exact ⟨e', by simp [he'], h1, h2⟩
      · cases h
    · obtain ⟨e', he', h1, h2⟩ := maskOf_bit h k hk
      exact ⟨e', by simp [he'], h1, h2⟩

theorem maskOf_on {ms : List Nat} : ∀ {es : List Edge} {m : Nat}, maskOf ms es = some m → ∀ e ∈ es, Region.binds .any e = true → e.on < ms.length ∧ m.testBit e.on = true
  | [], m, h, e, he, _ => by cases he
  | e0 :: r, m, h, e, he, hb => by
    simp only [maskOf] at h
    split at h
    · split at h
      · rename_i me mr hme hmr
        simp only [Option.some.injEq] at h
        subst h
        rcases List.mem_cons.1 he with rfl | he
        · refine ⟨(List.getElem?_eq_some_iff.1 hme).1, ?_⟩
          simp [Nat.testBit_or]
        · obtain ⟨h1, h2⟩ := maskOf_on hmr e he hb
          exact ⟨h1, by simp [Nat.testBit_or, h2]⟩
      · cases h
    · rename_i hnb
      rcases List.mem_cons.1 he with rfl | he
      · rw [hb] at hnb; cases hnb
      · exact maskOf_on h e he hb

theorem maskOf_sub {ms : List Nat} : ∀ {es : List Edge} {m : Nat}, maskOf ms es = some m → ∀ e ∈ es, Region.binds .any e = true → ∀ {me : Nat}, ms[e.on]? = some me → ∀ q, me.testBit q = true → m.testBit q = true
  | [], m, h, e, he, _, _, _, _, _ => by cases he
  | e0 :: r, m, h, e, he, hb, me, hme, q, hq => by
    simp only [maskOf] at h
    split at h
    · split at h
      · rename_i me' mr hme' hmr
        simp only [Option.some.injEq] at h
        subst h
        rcases List.mem_cons.1 he with rfl | he
        · rw [hme] at hme'; cases hme'
          simp [Nat.testBit_or, hq]
        · simp [Nat.testBit_or, maskOf_sub hmr e he hb hme q hq]
      · cases h
    · rename_i hnb
      rcases List.mem_cons.1 he with rfl | he
      · rw [hb] at hnb; cases hnb
      · exact maskOf_sub h e he hb hme q hq

/-- The operation that makes a temporary. -/
def dstIx (t : Nat) : List Oper → Nat → Option Nat
  | [], _ => none
  | o :: r, i => match o.dst with
    | some d => match Nat.beq d t with
      | true => some i
      | false => dstIx t r (i + 1)
    | none => dstIx t r (i + 1)

theorem dstIx_some {t : Nat} : ∀ {l : List Oper} {i j : Nat}, dstIx t l i = some j → ∃ o, i ≤ j ∧ l[j - i]? = some o ∧ o.dst = some t
  | [], i, j, h => by cases h
  | o :: r, i, j, h => by
    simp only [dstIx] at h
    have rec' : dstIx t r (i + 1) = some j → ∃ o', i ≤ j ∧ (o :: r)[j - i]? = some o' ∧ o'.dst = some t := by
      intro h
      obtain ⟨o', h1, h2, h3⟩ := dstIx_some h
      refine ⟨o', by omega, ?_, h3⟩
      rw [show j - i = (j - (i + 1)) + 1 from by omega]
      simpa using h2
    split at h
    · rename_i d hd
      split at h
      · rename_i hb
        have := Nat.eq_of_beq_eq_true hb
        subst this
        cases h
        exact ⟨o, Nat.le_refl _, by simp, hd⟩
      · exact rec' h
    · exact rec' h

/-- The temporaries behind the operations of S; those of O are not done as yet. -/
def gS (ops : List Oper) (E : Nat → Option Eff) (g0 : Nat → Option SV) (S O : Nat → Bool) (t : Nat) : Option SV :=
  match dstIx t ops 0 with
  | none => g0 t
  | some j => match S j with
    | true => (E j).map (·.val)
    | false => match O j with
      | true => g0 t
      | false => none

/-- Does the operation j wait for i? -/
def waitsFor (all : Array Oper) (i j : Nat) : Bool := match all[j]? with
  | some o => o.after.toList.any fun e => Nat.beq e.on i && Region.binds .any e
  | none => false

/-- The blocks that the operations of S make. -/
def blkT (T0 : Tab) (lab0 n : Nat) (E : Nat → Option Eff) (S : Nat → Bool) : Tab := fun l =>
  match Nat.ble lab0 l && Nat.blt l (lab0 + 8 * n) with
  | true => match S ((l - lab0) / 8) with
    | true => (E ((l - lab0) / 8)).bind fun e => e.new[(l - lab0) % 8]?
    | false => none
  | false => T0 l

/-- The blocks behind the operations of S. -/
def TS (T0 : Tab) (lab0 n : Nat) (E : Nat → Option Eff) (wr : List (Nat × SB)) (S : Nat → Bool) : Tab := fun l =>
  match look l wr with
  | some b => some b
  | none => blkT T0 lab0 n E S l

def isLoad : Op → Bool
  | .load .. => true
  | .slice .. => true
  | .call c => match c.callee with
    | .builtin .len => true
    | .builtin .cap => true
    | _ => false
  | _ => false

/-- The label at which a value's length stands, if it stands in the table. -/
def lenL : SV → Nat
  | .buf l => l
  | .slcR l _ _ _ => l
  | _ => 1000000000

/-- The one label that an operation looks at. -/
def rdl (Γ : Env) (g : Nat → Option SV) (o : Oper) : Option Nat := match o.op with
  | .load _ x => match ev Γ g x with
    | some (.ptr l _ _) => some l
    | some (.bptr l _) => some l
    | _ => none
  | .slice _ x _ _ _ => (ev Γ g x).map lenL
  | .call c => match c.callee, c.args.toList with
    | .builtin .len, [x] => (ev Γ g x).map lenL
    | .builtin .cap, [x] => (ev Γ g x).map lenL
    | _, _ => none
  | _ => none

theorem rdl_load {Γ : Env} {g : Nat → Option SV} {o : Oper} {l : Nat} (h : rdl Γ g o = some l) : isLoad o.op = true := by
  unfold rdl at h
  split at h
  · rename_i hop; rw [hop]; rfl
  · rename_i hop; rw [hop]; rfl
  · rename_i c hop
    rw [hop]
    split at h
    · rename_i hc _; simp only [isLoad, hc]
    · rename_i hc _; simp only [isLoad, hc]
    · cases h
  · cases h

/-- One label of a table. -/
def oneT (l : Nat) (T : Tab) : Tab := fun k => match Nat.beq k l with
  | true => T k
  | false => none

theorem oneT_sub {l k : Nat} {T : Tab} {B : SB} (h : oneT l T k = some B) : k = l ∧ T l = some B := by
  unfold oneT at h
  split at h
  · rename_i hb
    have := Nat.eq_of_beq_eq_true hb
    subst this
    exact ⟨rfl, h⟩
  · cases h

/-- The label is written by none of them but those of m. -/
def farW (l m : Nat) (es : List Eff) : List Nat → Bool
  | [] => true
  | s :: r => match m.testBit s with
    | true => farW l m es r
    | false => match es[s]? with
      | some e => match look l e.wr with
        | none => farW l m es r
        | some _ => false
      | none => false

theorem farW_ok {l m : Nat} {es : List Eff} : ∀ {L : List Nat}, farW l m es L = true → ∀ s ∈ L, m.testBit s = true ∨ ∃ e, es[s]? = some e ∧ look l e.wr = none
  | [], _, s, hs => by cases hs
  | k :: r, h, s, hs => by
    simp only [farW] at h
    split at h
    · rename_i hk
      rcases List.mem_cons.1 hs with rfl | hs
      · exact .inl hk
      · exact farW_ok h s hs
    · split at h
      case h_2 => cases h
      rename_i e he
      split at h
      · rename_i hl
        rcases List.mem_cons.1 hs with rfl | hs
        · exact .inr ⟨e, he, hl⟩
        · exact farW_ok h s hs
      · cases h

theorem farW_append {l m : Nat} {es : List Eff} {e : Eff} : ∀ {L : List Nat}, (∀ s ∈ L, s < es.length) → farW l m (es ++ [e]) L = farW l m es L
  | [], _ => rfl
  | s :: r, h => by
    have ih := farW_append (l := l) (m := m) (es := es) (e := e) (L := r) (fun s hs => h s (List.mem_cons_of_mem _ hs))
    simp only [farW, ih, List.getElem?_append_left (h s List.mem_cons_self)]

/-- The temporaries of the operation j. -/
def gOf (g0 : Nat → Option SV) (all : Array Oper) (es : List Eff) (j m : Nat) : Nat → Option SV :=
  gS all.toList (fun j => es[j]?) g0 (fun k => m.testBit k) (waitsFor all j)

def npOK (Γ : Env) (g0 : Nat → Option SV) (all : Array Oper) (es : List Eff) (ms : List Nat) (wr : List (Nat × SB)) (m : Nat) : List Oper → Nat → Nat → Bool
  | _, _, 0 => true
  | [], _, _ => true
  | o :: r, j, k + 1 => match pureOp o.op || m.testBit j with
    | true => npOK Γ g0 all es ms wr m r (j + 1) k
    | false => match ms[j]? with
      | some mj => match rdl Γ (gOf g0 all es j mj) o with
        | some l => match look l wr with
          | none => npOK Γ g0 all es ms wr m r (j + 1) k
          | some _ => false
        | none => false
      | none => false

theorem npOK_ok {Γ : Env} {g0 : Nat → Option SV} {all : Array Oper} {es : List Eff} {ms : List Nat} {wr : List (Nat × SB)} {m : Nat} : ∀ {l : List Oper} {j k : Nat}, npOK Γ g0 all es ms wr m l j k = true → ∀ (i : Nat) (o : Oper), i < k → l[i]? = some o →
    (pureOp o.op = true ∨ m.testBit (j + i) = true) ∨ ∃ mj lb, ms[j + i]? = some mj ∧ rdl Γ (gOf g0 all es (j + i) mj) o = some lb ∧ look lb wr = none
  | _, _, 0, _, i, o, hi, _ => by omega
  | [], _, k + 1, _, i, o, _, ho => by simp at ho
  | o' :: r, j, k + 1, h, i, o, hi, ho => by
    have rec' : npOK Γ g0 all es ms wr m r (j + 1) k = true → ∀ i', i = i' + 1 → (pureOp o.op = true ∨ m.testBit (j + i) = true) ∨ ∃ mj lb, ms[j + i]? = some mj ∧ rdl Γ (gOf g0 all es (j + i) mj) o = some lb ∧ look lb wr = none := by
      rintro h i' rfl
      simp only [List.getElem?_cons_succ] at ho
      have := npOK_ok h i' o (by omega) ho
      rw [show j + (i' + 1) = j + 1 + i' from by omega]
      exact this
    simp only [npOK] at h
    cases i with
    | zero =>
      simp only [List.getElem?_cons_zero, Option.some.injEq] at ho
      subst ho
      split at h
      · rename_i hb
        left
        simpa using hb
      · split at h
        case h_2 => cases h
        rename_i mj hmj
        split at h
        case h_2 => cases h
        rename_i lb hlb
        split at h
        · rename_i hl
          exact .inr ⟨mj, lb, hmj, hlb, hl⟩
        · cases h
    | succ i =>
      split at h
      · exact rec' h i rfl
      · split at h
        case h_2 => cases h
        split at h
        case h_2 => cases h
        split at h
        · exact rec' h i rfl
        · cases h

/-- What the writers have written, the last one first. -/
def wrOf (es : List Eff) : List Nat → List (Nat × SB)
  | [] => []
  | s :: r => match es[s]? with
    | some e => e.wr ++ wrOf es r
    | none => wrOf es r

theorem look_wrOf {es : List Eff} {l : Nat} {b : SB} : ∀ {L : List Nat}, look l (wrOf es L) = some b → ∃ s ∈ L, ∃ e, es[s]? = some e ∧ look l e.wr = some b
  | [], h => by simp [wrOf, look] at h
  | s :: r, h => by
    simp only [wrOf] at h
    have rec' : look l (wrOf es r) = some b → ∃ s' ∈ s :: r, ∃ e, es[s']? = some e ∧ look l e.wr = some b := fun h => by
      obtain ⟨s', h1, h2⟩ := look_wrOf h
      exact ⟨s', List.mem_cons_of_mem _ h1, h2⟩
    split at h
    · rename_i e he
      rw [look_append] at h
      cases hk : look l e.wr with
      | some b' => rw [hk] at h; cases h; exact ⟨s, List.mem_cons_self, e, he, hk⟩
      | none => rw [hk] at h; exact rec' h
    · exact rec' h

theorem wrOf_append {es : List Eff} {e : Eff} : ∀ {L : List Nat}, (∀ s ∈ L, s < es.length) → wrOf (es ++ [e]) L = wrOf es L
  | [], _ => rfl
  | s :: r, h => by
    have ih := wrOf_append (es := es) (e := e) (L := r) (fun s hs => h s (List.mem_cons_of_mem _ hs))
    simp only [wrOf, ih, List.getElem?_append_left (h s List.mem_cons_self)]

def inM (m : Nat) : List Nat → Bool
  | [] => true
  | s :: r => match m.testBit s with
    | true => inM m r
    | false => false

theorem inM_ok {m : Nat} : ∀ {L : List Nat}, inM m L = true → ∀ s ∈ L, m.testBit s = true
  | [], _, s, hs => by cases hs
  | k :: r, h, s, hs => by
    simp only [inM] at h
    split at h
    · rename_i hk
      rcases List.mem_cons.1 hs with rfl | hs
      · exact hk
      · exact inM_ok h s hs
    · cases h

def isNil {α : Type} : List α → Bool
  | [] => true
  | _ => false

/-- The writers that stand ahead. -/
def wlt (i : Nat) : List Nat → List Nat
  | [] => []
  | s :: r => match Nat.blt s i with
    | true => s :: wlt i r
    | false => wlt i r

theorem wlt_filter (i : Nat) : ∀ L : List Nat, wlt i L = L.filter fun s => Nat.blt s i
  | [] => rfl
  | s :: r => by
    simp only [wlt, List.filter_cons, wlt_filter i r]
    cases Nat.blt s i <;> rfl

/-- One operation of such a statement. -/
def eff1 (Γ : Env) (g0 : Nat → Option SV) (T0 : Tab) (lab0 n : Nat) (all : Array Oper) (o : Oper) (i m : Nat) (es : List Eff) (wi : List Nat) : Option Eff :=
  match wantedS all (gOf g0 all es i m) o with
  | some false => some { val := .raw undef }
  | some true => match pureOp o.op with
    | true => opEff Γ (gOf g0 all es i m) (fun _ => none) (lab0 + 8 * i) (lab0 + 8 * n) none o
    | false => match rdl Γ (gOf g0 all es i m) o with
      | some l => match farW l m es (wlt i wi) with
        | true => opEff Γ (gOf g0 all es i m) (oneT l (TS T0 lab0 n (fun j => es[j]?) (wrOf es ((wlt i wi).filter fun s => m.testBit s)) (fun j => m.testBit j))) (lab0 + 8 * i) (lab0 + 8 * n) none o
        | false => none
      | none => match inM m (wlt i wi) with
        | true => opEff Γ (gOf g0 all es i m) (TS T0 lab0 n (fun j => es[j]?) (wrOf es (wlt i wi)) (fun j => m.testBit j)) (lab0 + 8 * i) (lab0 + 8 * n) none o
        | false => none
  | none => none

def evalR (Γ : Env) (g0 : Nat → Option SV) (T0 : Tab) (lab0 n : Nat) (all : Array Oper) : List Oper → Nat → List Eff → List Nat → List Nat → Option (List Eff × List Nat × List Nat)
  | [], _, es, ms, wi => some (es, ms, wi)
  | o :: r, i, es, ms, wi => match maskOf ms o.after.toList with
    | none => none
    | some m => match eff1 Γ g0 T0 lab0 n all o i m es wi, (match o.dst with | some d => dstIx d all.toList 0 == some i | none => true) with
      | some e, true => match isNil e.wr with
        | true => match Nat.ble e.new.length 8 with
          | true => evalR Γ g0 T0 lab0 n all r (i + 1) (es ++ [e]) (ms ++ [m]) wi
          | false => none
        | false => match Nat.ble e.new.length 8 && npOK Γ g0 all es ms e.wr m all.toList 0 i && e.wr.all (fun p => Nat.blt p.1 lab0 || (Nat.ble lab0 p.1 && m.testBit ((p.1 - lab0) / 8))) && (!pureOp o.op && !isLoad o.op) with
          | true => evalR Γ g0 T0 lab0 n all r (i + 1) (es ++ [e]) (ms ++ [m]) (i :: wi)
          | false => none
      | _, _ => none

/-- What has been reckoned of the first i operations. -/
structure Done (Γ : Env) (g0 : Nat → Option SV) (T0 : Tab) (lab0 n : Nat) (all : Array Oper) (i : Nat) (es : List Eff) (ms : List Nat) (wi : List Nat) : Prop where
  les : es.length = i
  lms : ms.length = i
  lt : ∀ (j m : Nat), ms[j]? = some m → ∀ k, m.testBit k = true → k < j
  cl : ∀ (j m : Nat), ms[j]? = some m → ∀ k mk, m.testBit k = true → ms[k]? = some mk → ∀ q, mk.testBit q = true → m.testBit q = true
  aft : ∀ (j m : Nat) (o : Oper), ms[j]? = some m → all[j]? = some o → ∀ e ∈ o.after, Region.binds .any e = true → e.on < j ∧ m.testBit e.on = true
  aft2 : ∀ (j m : Nat) (o : Oper), ms[j]? = some m → all[j]? = some o → ∀ k, m.testBit k = true → ∃ e ∈ o.after, Region.binds .any e = true ∧ (k = e.on ∨ ∃ me, ms[e.on]? = some me ∧ me.testBit k = true)
  dst : ∀ (j : Nat) (o : Oper) (d : Tmp), j < i → all[j]? = some o → o.dst = some d → dstIx d all.toList 0 = some j
  new : ∀ (j : Nat) (e : Eff), es[j]? = some e → e.new.length ≤ 8
  wrt : ∀ (j : Nat) (e : Eff), es[j]? = some e → e.wr ≠ [] → j ∈ wi
  wlt : ∀ s ∈ wi, s < i
  wso : wi.Pairwise (· > ·)
  wim : ∀ s ∈ wi, ∀ (o : Oper), all[s]? = some o → pureOp o.op = false ∧ isLoad o.op = false
  wnp : ∀ s ∈ wi, ∀ (m : Nat), ms[s]? = some m → ∀ (j : Nat) (o : Oper), j < s → all[j]? = some o → (pureOp o.op = true ∨ m.testBit j = true) ∨ ∃ mj lb e, ms[j]? = some mj ∧ es[s]? = some e ∧ rdl Γ (gOf g0 all es j mj) o = some lb ∧ look lb e.wr = none
  wlb : ∀ s ∈ wi, ∀ (m : Nat), ms[s]? = some m → ∀ (e : Eff), es[s]? = some e → ∀ l b, look l e.wr = some b → l < lab0 ∨ (lab0 ≤ l ∧ m.testBit ((l - lab0) / 8) = true)
  eff : ∀ (j m : Nat) (o : Oper) (e : Eff), ms[j]? = some m → all[j]? = some o → es[j]? = some e → eff1 Γ g0 T0 lab0 n all o j m es wi = some e

theorem gS_congr {ops : List Oper} {E E' : Nat → Option Eff} {g0 : Nat → Option SV} {S O : Nat → Bool} (h : ∀ j, S j = true → E j = E' j) : gS ops E g0 S O = gS ops E' g0 S O := by
  funext t
  unfold gS
  cases dstIx t ops 0 with
  | none => rfl
  | some j =>
    cases hs : S j with
    | false => simp [hs]
    | true => simp [hs, h j hs]

theorem blkT_congr {T0 : Tab} {lab0 n : Nat} {E E' : Nat → Option Eff} {S : Nat → Bool} (h : ∀ j, S j = true → E j = E' j) : blkT T0 lab0 n E S = blkT T0 lab0 n E' S := by
  funext l
  unfold blkT
  split
  · cases hs : S ((l - lab0) / 8) with
    | false => rfl
    | true => simp only [h _ hs]
  · rfl

theorem TS_congr {T0 : Tab} {lab0 n : Nat} {E E' : Nat → Option Eff} {wr : List (Nat × SB)} {S : Nat → Bool} (h : ∀ j, S j = true → E j = E' j) : TS T0 lab0 n E wr S = TS T0 lab0 n E' wr S := by
  funext l
  unfold TS
  rw [blkT_congr h]

theorem eff1_ext {Γ : Env} {g0 : Nat → Option SV} {T0 : Tab} {lab0 n : Nat} {all : Array Oper} {o : Oper} {j m : Nat} {es : List Eff} {wi wi' : List Nat} (e : Eff) (hm : ∀ k, m.testBit k = true → k < es.length) (hj : j ≤ es.length)
    (hw : wi' = wi ∨ (∃ s, wi' = s :: wi ∧ j ≤ s)) : eff1 Γ g0 T0 lab0 n all o j m (es ++ [e]) wi' = eff1 Γ g0 T0 lab0 n all o j m es wi := by
  have hE : ∀ k, m.testBit k = true → (es ++ [e])[k]? = es[k]? := fun k hk => List.getElem?_append_left (hm k hk)
  have hg : gOf g0 all (es ++ [e]) j m = gOf g0 all es j m := gS_congr (ops := all.toList) (E := fun k => (es ++ [e])[k]?) (E' := fun k => es[k]?) (g0 := g0) (S := fun k => m.testBit k) (O := waitsFor all j) hE
  have hwl : wlt j wi' = wlt j wi := by
    rcases hw with rfl | ⟨s, rfl, hs⟩
    · rfl
    · have : Nat.blt s j = false := by
        cases hb : Nat.blt s j with
        | false => rfl
        | true => simp [Nat.blt_eq] at hb; omega
      simp [wlt, this]
  have hlt : ∀ s ∈ wlt j wi, s < es.length := fun s hs => by
    rw [wlt_filter, List.mem_filter] at hs
    have : s < j := by simpa [Nat.blt_eq] using hs.2
    omega
  have hwr : wrOf (es ++ [e]) (wlt j wi) = wrOf es (wlt j wi) := wrOf_append hlt
  have hwr2 : wrOf (es ++ [e]) ((wlt j wi).filter fun s => m.testBit s) = wrOf es ((wlt j wi).filter fun s => m.testBit s) := wrOf_append fun s hs => hlt s (List.mem_filter.1 hs).1
  have hfw : ∀ l, farW l m (es ++ [e]) (wlt j wi) = farW l m es (wlt j wi) := fun l => farW_append hlt
  have hT := fun wr => TS_congr (T0 := T0) (lab0 := lab0) (n := n) (E := fun k => (es ++ [e])[k]?) (E' := fun k => es[k]?) (wr := wr) (S := fun k => m.testBit k) hE
  unfold eff1
  simp only [hg, hwl, hwr, hwr2, hT, hfw]

theorem get_snoc {α : Type} {l : List α} {x y : α} {j : Nat} (h : (l ++ [x])[j]? = some y) : l[j]? = some y ∨ (j = l.length ∧ x = y) := by
  by_cases hj : j < l.length
  · rw [List.getElem?_append_left hj] at h; exact .inl h
  · have : j = l.length := by
      have := (List.getElem?_eq_some_iff.1 h).1
      simp at this; omega
    subst this
    simp at h
    exact .inr ⟨rfl, h⟩

theorem Done.nil {Γ : Env} {g0 : Nat → Option SV} {T0 : Tab} {lab0 n : Nat} {all : Array Oper} : Done Γ g0 T0 lab0 n all 0 [] [] [] :=
  ⟨rfl, rfl, (fun j m h => by simp at h), (fun j m h => by simp at h), (fun j m o h => by simp at h), (fun j m o h => by simp at h), (fun j o d h => by omega), (fun j e h => by simp at h), (fun j e h => by simp at h),
   (fun s h => by cases h), List.Pairwise.nil, (fun s h => by cases h), (fun s h => by cases h), (fun s h => by cases h), (fun j m o e h => by simp at h)⟩

theorem Done.snoc {Γ : Env} {g0 : Nat → Option SV} {T0 : Tab} {lab0 n : Nat} {all : Array Oper} {i : Nat} {es : List Eff} {ms : List Nat} {wi wi' : List Nat} (h : Done Γ g0 T0 lab0 n all i es ms wi) {o : Oper} {m : Nat} {e : Eff}
    (ho : all[i]? = some o) (hm : maskOf ms o.after.toList = some m) (he : eff1 Γ g0 T0 lab0 n all o i m es wi = some e) (hd : ∀ d, o.dst = some d → dstIx d all.toList 0 = some i) (hn : e.new.length ≤ 8)
    (hw : (e.wr = [] ∧ wi' = wi) ∨ (wi' = i :: wi ∧ (pureOp o.op = false ∧ isLoad o.op = false) ∧ (∀ (j : Nat) (o : Oper), j < i → all[j]? = some o → (pureOp o.op = true ∨ m.testBit j = true) ∨ ∃ mj lb, ms[j]? = some mj ∧ rdl Γ (gOf g0 all es j mj) o = some lb ∧ look lb e.wr = none) ∧ ∀ l b, look l e.wr = some b → l < lab0 ∨ (lab0 ≤ l ∧ m.testBit ((l - lab0) / 8) = true))) :
    Done Γ g0 T0 lab0 n all (i + 1) (es ++ [e]) (ms ++ [m]) wi' := by
  have hmlt : ∀ k, m.testBit k = true → k < i := by
    intro k hk
    obtain ⟨ed, hed, hb, hk⟩ := maskOf_bit hm k hk
    have h1 := (maskOf_on hm ed hed hb).1
    rw [h.lms] at h1
    rcases hk with rfl | ⟨me, hme, hk⟩
    · exact h1
    · have := h.lt _ _ hme k hk; omega
  have hext : ∀ (j m' : Nat) (o' : Oper), ms[j]? = some m' → eff1 Γ g0 T0 lab0 n all o' j m' (es ++ [e]) wi' = eff1 Γ g0 T0 lab0 n all o' j m' es wi := by
    intro j m' o' hj
    have hjl := (List.getElem?_eq_some_iff.1 hj).1
    rw [h.lms] at hjl
    refine eff1_ext e (fun k hk => ?_) (by rw [h.les]; omega) ?_
    · have := h.lt j m' hj k hk; rw [h.les]; omega
    · rcases hw with ⟨_, rfl⟩ | ⟨rfl, _⟩
      · exact .inl rfl
      · exact .inr ⟨i, rfl, by omega⟩
  have hms : ∀ {j m' : Nat}, ms[j]? = some m' → (ms ++ [m])[j]? = some m' := fun {j m'} hj => by
    rw [List.getElem?_append_left (List.getElem?_eq_some_iff.1 hj).1]; exact hj
  refine ⟨by simp [h.les], by simp [h.lms], fun j m' hj k hk => ?_, fun j m' hj k mk hk hmk q hq => ?_, fun j m' o' hj ho' ed hed hb => ?_, fun j m' o' hj ho' k hk => ?_, fun j o' d hj ho' hd' => ?_, fun j e' he' => ?_, fun j e' he' hne => ?_, fun s hs => ?_, ?_, fun s hs o' ho' => ?_, fun s hs m' hm' j o' hj ho' => ?_, fun s hs m' hm' e' he' l b hl => ?_, fun j m' o' e' hj ho' he' => ?_⟩
  · rcases get_snoc hj with hj | ⟨rfl, rfl⟩
    · exact h.lt j m' hj k hk
    · rw [h.lms]; exact hmlt k hk
  · have hmk2 : ms[k]? = some mk ∨ k = i := by
      rcases get_snoc hmk with h1 | ⟨h1, _⟩
      · exact .inl h1
      · right; rw [h1, h.lms]
    rcases get_snoc hj with hj | ⟨rfl, rfl⟩
    · have hki := h.lt j m' hj k hk
      have hji := (List.getElem?_eq_some_iff.1 hj).1
      rw [h.lms] at hji
      rcases hmk2 with hmk2 | rfl
      · exact h.cl j m' hj k mk hk hmk2 q hq
      · omega
    · have hki := hmlt k hk
      rcases hmk2 with hmk2 | rfl
      · obtain ⟨ed, hed, hb, hk2⟩ := maskOf_bit hm k hk
        -- q is ahead of k, k ahead of the new one
        have key : ∀ k mk, m.testBit k = true → ms[k]? = some mk → mk.testBit q = true → m.testBit q = true := by
          intro k mk hk hmk hq
          obtain ⟨ed, hed, hb, hk2⟩ := maskOf_bit hm k hk
          rcases hk2 with rfl | ⟨me, hme, hk2⟩
          · exact maskOf_sub hm ed hed hb hmk q hq
          · exact maskOf_sub hm ed hed hb hme q (h.cl _ me hme k mk hk2 hmk q hq)
        exact key k mk hk hmk2 hq
      · omega
  · rcases get_snoc hj with hj | ⟨rfl, rfl⟩
    · exact h.aft j m' o' hj ho' ed hed hb
    · rw [h.lms] at ho'
      rw [ho] at ho'; cases ho'
      obtain ⟨h1, h2⟩ := maskOf_on hm ed (by simpa using hed) hb
      exact ⟨h1, h2⟩
  · rcases get_snoc hj with hj | ⟨rfl, rfl⟩
    · obtain ⟨ed, h1, h2, h3⟩ := h.aft2 j m' o' hj ho' k hk
      refine ⟨ed, h1, h2, ?_⟩
      rcases h3 with h3 | ⟨me, h3, h4⟩
      · exact .inl h3
      · exact .inr ⟨me, hms h3, h4⟩
    · rw [h.lms] at ho'
      rw [ho] at ho'; cases ho'
      obtain ⟨ed, h1, h2, h3⟩ := maskOf_bit hm k hk
      refine ⟨ed, by simpa using h1, h2, ?_⟩
      rcases h3 with h3 | ⟨me, h3, h4⟩
      · exact .inl h3
      · exact .inr ⟨me, hms h3, h4⟩
  · by_cases hji : j = i
    · subst hji; rw [ho] at ho'; cases ho'; exact hd d hd'
    · exact h.dst j o' d (by omega) ho' hd'
  · rcases get_snoc he' with he' | ⟨_, rfl⟩
    · exact h.new j e' he'
    · exact hn
  · rcases get_snoc he' with he' | ⟨rfl, rfl⟩
    · have := h.wrt j e' he' hne
      rcases hw with ⟨_, rfl⟩ | ⟨rfl, _⟩
      · exact this
      · exact List.mem_cons_of_mem _ this
    · rcases hw with ⟨hw, _⟩ | ⟨rfl, _⟩
      · exact absurd hw hne
      · rw [h.les]; exact List.mem_cons_self
  · rcases hw with ⟨_, rfl⟩ | ⟨rfl, _⟩
    · have := h.wlt s hs; omega
    · rcases List.mem_cons.1 hs with rfl | hs
      · omega
      · have := h.wlt s hs; omega
  · rcases hw with ⟨_, rfl⟩ | ⟨rfl, _⟩
    · exact h.wso
    · exact List.pairwise_cons.2 ⟨fun s hs => h.wlt s hs, h.wso⟩
  · rcases hw with ⟨_, rfl⟩ | ⟨rfl, hpo, _⟩
    · exact h.wim s hs o' ho'
    · rcases List.mem_cons.1 hs with rfl | hs
      · rw [ho] at ho'; cases ho'; exact hpo
      · exact h.wim s hs o' ho'
  · have hes : ∀ {k e'}, es[k]? = some e' → (es ++ [e])[k]? = some e' := fun {k e'} hk => by
      rw [List.getElem?_append_left (List.getElem?_eq_some_iff.1 hk).1]; exact hk
    have hgo : ∀ {k mk}, ms[k]? = some mk → gOf g0 all (es ++ [e]) k mk = gOf g0 all es k mk := fun {k mk} hk => by
      refine gS_congr fun q hq => List.getElem?_append_left ?_
      have h1 := h.lt k mk hk q hq
      have h2 := (List.getElem?_eq_some_iff.1 hk).1
      rw [h.lms] at h2
      rw [h.les]
      omega
    have old : s ∈ wi → (pureOp o'.op = true ∨ m'.testBit j = true) ∨ ∃ mj lb e', (ms ++ [m])[j]? = some mj ∧ (es ++ [e])[s]? = some e' ∧ rdl Γ (gOf g0 all (es ++ [e]) j mj) o' = some lb ∧ look lb e'.wr = none := fun hs => by
      have hsi := h.wlt s hs
      rcases get_snoc hm' with hm' | ⟨h1, _⟩
      · rcases h.wnp s hs m' hm' j o' hj ho' with h3 | ⟨mj, lb, e', k1, k2, k3, k4⟩
        · exact .inl h3
        · exact .inr ⟨mj, lb, e', hms k1, hes k2, by rw [hgo k1]; exact k3, k4⟩
      · rw [h.lms] at h1; omega
    rcases hw with ⟨_, rfl⟩ | ⟨rfl, _, hnp, _⟩
    · exact old hs
    · rcases List.mem_cons.1 hs with rfl | hs
      · rcases get_snoc hm' with hm' | ⟨_, rfl⟩
        · have := (List.getElem?_eq_some_iff.1 hm').1; rw [h.lms] at this; omega
        · rcases hnp j o' hj ho' with h3 | ⟨mj, lb, k1, k3, k4⟩
          · exact .inl h3
          · exact .inr ⟨mj, lb, e, hms k1, by rw [← h.les]; simp, by rw [hgo k1]; exact k3, k4⟩
      · exact old hs
  · have old : s ∈ wi → l < lab0 ∨ (lab0 ≤ l ∧ m'.testBit ((l - lab0) / 8) = true) := fun hs => by
      have hsi := h.wlt s hs
      rcases get_snoc hm' with hm' | ⟨h1, _⟩
      · rcases get_snoc he' with he' | ⟨h1, _⟩
        · exact h.wlb s hs m' hm' e' he' l b hl
        · rw [h.les] at h1; omega
      · rw [h.lms] at h1; omega
    rcases hw with ⟨_, rfl⟩ | ⟨rfl, _, _, hlb⟩
    · exact old hs
    · rcases List.mem_cons.1 hs with rfl | hs
      · rcases get_snoc hm' with hm' | ⟨_, rfl⟩
        · have := (List.getElem?_eq_some_iff.1 hm').1; rw [h.lms] at this; omega
        · rcases get_snoc he' with he' | ⟨_, rfl⟩
          · have := (List.getElem?_eq_some_iff.1 he').1; rw [h.les] at this; omega
          · exact hlb l b hl
      · exact old hs
  · rcases get_snoc hj with hj | ⟨rfl, rfl⟩
    · have hji := (List.getElem?_eq_some_iff.1 hj).1
      rw [h.lms] at hji
      rw [hext j m' o' hj]
      rcases get_snoc he' with he' | ⟨h1, _⟩
      · exact h.eff j m' o' e' hj ho' he'
      · rw [h.les] at h1; omega
    · rw [h.lms] at ho' he' ⊢
      rw [ho] at ho'; cases ho'
      rcases get_snoc he' with he' | ⟨_, rfl⟩
      · have := (List.getElem?_eq_some_iff.1 he').1; rw [h.les] at this; omega
      · rw [eff1_ext e (fun k hk => by rw [h.les]; exact hmlt k hk) (by rw [h.les]; exact Nat.le_refl _) ?_]
        · exact he
        · rcases hw with ⟨_, rfl⟩ | ⟨rfl, _⟩
          · exact .inl rfl
          · exact .inr ⟨i, rfl, Nat.le_refl _⟩

end Go.Proofs.YtaibhjpgbckbkaaGreatDoor.Sx

/- The symbolic executor, seventeenth text: a statement whose order is drawn, in the program. -/
open Go
namespace Go.Proofs.YtaibhjpgbckbkaaGreatDoor.Sx

theorem filter_le {f f' : Nat → Bool} : ∀ (l : List Nat), (∀ j, f' j = true → f j = true) → (l.filter f').length ≤ (l.filter f).length
  | [], _ => by simp
  | x :: r, h => by
    have ih := filter_le r h
    cases hx : f' x with
    | true => simp [hx, h x hx, ih]
    | false =>
      cases hy : f x with
      | true => simp [hx, hy]; omega
      | false => simp [hx, hy, ih]

theorem filter_lt {f f' : Nat → Bool} {i : Nat} : ∀ (l : List Nat), i ∈ l → (∀ j, f' j = true → f j = true) → f i = true → f' i = false → (l.filter f').length + 1 ≤ (l.filter f).length
  | [], h, _, _, _ => by simp at h
  | x :: r, h, hm, h1, h2 => by
    by_cases e : x = i
    · subst e
      have := filter_le r hm
      simp [h1, h2, this]
    · have hr : i ∈ r := by
        rcases List.mem_cons.1 h with h | h
        · exact absurd h.symm e
        · exact h
      have ih := filter_lt r hr hm h1 h2
      cases hx : f' x with
      | true => simp [hx, hm x hx]; omega
      | false =>
        cases hy : f x with
        | true => simp [hx, hy]; omega
        | false => simp [hx, hy]; omega

theorem evalR_done {Γ : Env} {g0 : Nat → Option SV} {T0 : Tab} {lab0 n : Nat} {all : Array Oper} : ∀ {r : List Oper} {i : Nat} {es es' : List Eff} {ms ms' : List Nat} {wi wi' : List Nat},
    evalR Γ g0 T0 lab0 n all r i es ms wi = some (es', ms', wi') → (∀ k, r[k]? = all[i + k]?) → Done Γ g0 T0 lab0 n all i es ms wi → Done Γ g0 T0 lab0 n all (i + r.length) es' ms' wi'
  | [], i, es, es', ms, ms', wi, wi', h, _, hd => by
    simp only [evalR, Option.some.injEq, Prod.mk.injEq] at h
    obtain ⟨rfl, rfl, rfl⟩ := h
    exact hd
  | o :: r, i, es, es', ms, ms', wi, wi', h, hr, hd => by
    have ho : all[i]? = some o := by have := hr 0; simpa using this.symm
    have hr' : ∀ k, r[k]? = all[i + 1 + k]? := fun k => by
      have := hr (k + 1)
      rw [show i + 1 + k = i + (k + 1) from by omega]
      simpa using this
    simp only [evalR] at h
    split at h
    · cases h
    · rename_i m hm
      split at h
      case h_2 => cases h
      rename_i e he hdst
      have hdst' : ∀ d, o.dst = some d → dstIx d all.toList 0 = some i := by
        intro d hd'
        rw [hd'] at hdst
        simpa using hdst
      split at h
      · rename_i hnil
        split at h
        case h_2 => cases h
        rename_i hn
        have hw : e.wr = [] := by
          cases hwr : e.wr with
          | nil => rfl
          | cons a b => rw [hwr] at hnil; cases hnil
        have := evalR_done h hr' (hd.snoc ho hm he hdst' (Nat.le_of_ble_eq_true hn) (.inl ⟨hw, rfl⟩))
        rw [show i + (o :: r).length = i + 1 + r.length from by simp; omega]
        exact this
      · split at h
        · rename_i hck
          simp only [Bool.and_eq_true] at hck
          obtain ⟨⟨⟨c1, c2⟩, c3⟩, c4⟩ := hck
          have := evalR_done h hr' (hd.snoc ho hm he hdst' (Nat.le_of_ble_eq_true c1) (.inr ⟨rfl, by simpa using c4, fun j o' hj ho' => ?_, fun l b hl => ?_⟩))
          · rw [show i + (o :: r).length = i + 1 + r.length from by simp; omega]
            exact this
          · have := npOK_ok c2 j o' hj (by simpa using ho')
            simpa using this
          · have := List.all_eq_true.1 c3 _ (look_mem hl)
            simp only [Bool.or_eq_true, Bool.and_eq_true] at this
            rcases this with h1 | ⟨h1, h2⟩
            · left; simpa [Nat.blt_eq] using h1
            · right; exact ⟨Nat.le_of_ble_eq_true h1, h2⟩
        · cases h

def wrS (es : List Eff) (wi : List Nat) (S : Nat → Bool) : List (Nat × SB) := wrOf es (wi.filter S)

/-- What holds when the operations of S are done. -/
structure RInv (P : Program) (Γ : Env) (w0 : World) (M : Nat → Prop) (N : Nat) (df : List Deferred) (g0 : Nat → Option SV) (T0 : Tab) (lab0 : Nat) (all : Array Oper) (es : List Eff) (wi : List Nat) (Vs : Val) (S : Nat → Bool) (V : Val) (a : Act) (w : World) : Prop where
  tmp : TmpOK V (gS all.toList (fun j => es[j]?) g0 S (fun j => !S j)) a
  size : N ≤ a.tmps.size
  defers : a.defers = df
  tab : TabOK w0 M V (TS T0 lab0 all.size (fun j => es[j]?) (wrS es wi S) S) w
  glob : GlobOK Γ V
  top : V.top (lab0 + 8 * all.size)
  fresh : ∀ j, j < all.size → S j = false → V.fresh (lab0 + 8 * j)
  le : Vs.le V
  low : ∀ l, l < lab0 → V.β l = Vs.β l ∧ V.σ l = Vs.σ l

theorem gS_sub {ops : List Oper} {E : Nat → Option Eff} {g0 : Nat → Option SV} {S S' O : Nat → Bool} (h : ∀ j, S j = true → S' j = true) (hO : ∀ j, O j = true → S' j = false) {t : Nat} {v : SV} (hv : gS ops E g0 S O t = some v) : gS ops E g0 S' (fun j => !S' j) t = some v := by
  unfold gS at *
  cases hd : dstIx t ops 0 with
  | none => rw [hd] at hv; exact hv
  | some j =>
    rw [hd] at hv
    simp only at hv ⊢
    cases hs : S j with
    | false =>
      rw [hs] at hv
      simp only at hv
      cases ho : O j with
      | false => rw [ho] at hv; cases hv
      | true => rw [ho] at hv; rw [hO j ho]; exact hv
    | true => rw [hs] at hv; rw [h j hs]; exact hv

theorem TS_sub {T0 : Tab} {lab0 n : Nat} {E : Nat → Option Eff} {wr : List (Nat × SB)} {S S' : Nat → Bool} (h : ∀ j, S j = true → S' j = true) {l : Nat} {B : SB} (hv : TS T0 lab0 n E wr S l = some B) : TS T0 lab0 n E wr S' l = some B := by
  unfold TS at *
  cases hl : look l wr with
  | some b => rw [hl] at hv; exact hv
  | none =>
    rw [hl] at hv
    simp only at hv ⊢
    unfold blkT at *
    split at hv
    · cases hs : S ((l - lab0) / 8) with
      | false => rw [hs] at hv; cases hv
      | true => rw [hs] at hv; rw [h _ hs]; exact hv
    · exact hv

theorem rng_true {lab0 l n : Nat} (h1 : lab0 ≤ l) (h2 : l < lab0 + 8 * n) : (Nat.ble lab0 l && Nat.blt l (lab0 + 8 * n)) = true := by
  rw [Nat.ble_eq_true_of_le h1]; simpa [Nat.blt_eq] using h2
theorem rng_false {lab0 l n : Nat} (h : ¬ (lab0 ≤ l ∧ l < lab0 + 8 * n)) : (Nat.ble lab0 l && Nat.blt l (lab0 + 8 * n)) = false := by
  cases hb : (Nat.ble lab0 l && Nat.blt l (lab0 + 8 * n)) with
  | false => rfl
  | true =>
    simp only [Bool.and_eq_true] at hb
    exact absurd ⟨Nat.le_of_ble_eq_true hb.1, by simpa [Nat.blt_eq] using hb.2⟩ h

theorem blkT_step {T0 : Tab} {lab0 n : Nat} {es : List Eff} {S S' : Nat → Bool} {i : Nat} {e : Eff} (hi : i < n) (he : es[i]? = some e) (hS : S i = false) (hS' : ∀ j, S' j = (S j || decide (j = i))) (hn : e.new.length ≤ 8) (l : Nat) :
    blkT T0 lab0 n (fun j => es[j]?) S' l = match look l (newL (lab0 + 8 * i) e.new) with
      | some b => some b
      | none => blkT T0 lab0 n (fun j => es[j]?) S l := by
  rw [look_newL]
  unfold blkT
  by_cases h1 : lab0 ≤ l ∧ l < lab0 + 8 * n
  · rw [rng_true h1.1 h1.2]
    simp only
    by_cases h3 : (l - lab0) / 8 = i
    · rw [h3, hS' i, hS]
      simp only [Bool.false_or, decide_true, he, Option.bind_some]
      have h4 : lab0 + 8 * i ≤ l := by omega
      rw [if_pos h4, show (l - lab0) % 8 = l - (lab0 + 8 * i) from by omega]
      cases e.new[l - (lab0 + 8 * i)]? <;> rfl
    · rw [hS' _, show decide ((l - lab0) / 8 = i) = false from by simpa using h3, Bool.or_false]
      have h5 : (if lab0 + 8 * i ≤ l then e.new[l - (lab0 + 8 * i)]? else none) = none := by
        split
        · apply List.getElem?_eq_none; omega
        · rfl
      rw [h5]
  · rw [rng_false h1]
    have h5 : (if lab0 + 8 * i ≤ l then e.new[l - (lab0 + 8 * i)]? else none) = none := by
      split
      · apply List.getElem?_eq_none; omega
      · rfl
    rw [h5]

/-- One writer more. -/
theorem filter_more {S S' : Nat → Bool} {i : Nat} (hS : S i = false) (hS' : ∀ j, S' j = (S j || decide (j = i))) : ∀ {L : List Nat}, L.Pairwise (· > ·) → (i ∈ L → ∀ s ∈ L, S s = true → s < i) → L.filter S' = if i ∈ L then i :: L.filter S else L.filter S
  | [], _, _ => by simp
  | x :: r, hp, h => by
    obtain ⟨hp1, hp2⟩ := List.pairwise_cons.1 hp
    by_cases e : x = i
    · subst e
      have hr : r.filter S' = r.filter S := by
        refine List.filter_congr fun s hs => ?_
        have := hp1 s hs
        rw [hS', show decide (s = x) = false from by simp; omega, Bool.or_false]
      have h1 : S' x = true := by rw [hS']; simp
      rw [if_pos List.mem_cons_self, List.filter_cons, if_pos h1, hr, List.filter_cons, if_neg (by rw [hS]; simp)]
    · have hx : S' x = S x := by rw [hS', show decide (x = i) = false from by simpa using e, Bool.or_false]
      by_cases hi : i ∈ r
      · have hxf : S x = false := by
          cases hb : S x with
          | false => rfl
          | true => have h1 := h (List.mem_cons_of_mem _ hi) x List.mem_cons_self hb
                    have h2 := hp1 i hi
                    omega
        have ih := filter_more hS hS' hp2 (fun _ s hs => h (List.mem_cons_of_mem _ hi) s (List.mem_cons_of_mem _ hs))
        rw [if_pos hi] at ih
        rw [if_pos (List.mem_cons_of_mem _ hi), List.filter_cons, if_neg (by rw [hx, hxf]; simp), List.filter_cons, if_neg (by rw [hxf]; simp), ih]
      · have ih := filter_more hS hS' hp2 (fun hi' => absurd hi' hi)
        rw [if_neg hi] at ih
        have hni : ¬ i ∈ x :: r := by simp [hi]; exact fun q => e q.symm
        rw [if_neg hni, List.filter_cons, List.filter_cons, ih, hx]

/-- The table, one operation more. -/
theorem TS_step {T0 : Tab} {lab0 n : Nat} {es : List Eff} {wi : List Nat} {S S' : Nat → Bool} {i : Nat} {e : Eff} (hi : i < n) (he : es[i]? = some e) (hS : S i = false) (hS' : ∀ j, S' j = (S j || decide (j = i)))
    (hn : e.new.length ≤ 8) (hw : e.wr ≠ [] → i ∈ wi) (hso : wi.Pairwise (· > ·)) (hnw : i ∈ wi → ∀ s ∈ wi, S s = true → s < i)
    (hwl : ∀ s ∈ wi, S s = true → ∀ e', es[s]? = some e' → ∀ l b, look l e'.wr = some b → l < lab0 ∨ (lab0 ≤ l ∧ S ((l - lab0) / 8) = true)) :
    TS T0 lab0 n (fun j => es[j]?) (wrS es wi S') S' = upd (TS T0 lab0 n (fun j => es[j]?) (wrS es wi S) S) (lab0 + 8 * i) e := by
  funext l
  have hblk := blkT_step (T0 := T0) (lab0 := lab0) hi he hS hS' hn
  have e0 : wrS es wi S' = e.wr ++ wrS es wi S := by
    unfold wrS
    rw [filter_more hS hS' hso hnw]
    by_cases hm : i ∈ wi
    · rw [if_pos hm]; simp only [wrOf, he]
    · rw [if_neg hm]
      have : e.wr = [] := by
        cases hk : e.wr with
        | nil => rfl
        | cons x y => exact absurd (hw (by rw [hk]; simp)) hm
      rw [this, List.nil_append]
  unfold upd Eff.tab
  rw [look_append]
  show (match look l (wrS es wi S') with
    | some b => some b
    | none => blkT T0 lab0 n (fun j => es[j]?) S' l) = _
  rw [e0, look_append]
  cases hk : look l e.wr with
  | some b => rfl
  | none =>
    simp only
    cases hk2 : look l (wrS es wi S) with
    | none =>
      simp only
      rw [hblk l]
      cases look l (newL (lab0 + 8 * i) e.new) with
      | some b => rfl
      | none => simp only [TS, hk2]
    | some b =>
      simp only
      have hno : look l (newL (lab0 + 8 * i) e.new) = none := by
        rw [look_newL]
        split
        · rename_i hge
          obtain ⟨s, hs, e', he', hl⟩ := look_wrOf hk2
          rw [List.mem_filter] at hs
          rcases hwl s hs.1 hs.2 e' he' l b hl with h1 | ⟨h1, h2⟩
          · omega
          · apply List.getElem?_eq_none
            have : (l - lab0) / 8 ≠ i := fun q => by rw [q, hS] at h2; cases h2
            omega
        · rfl
      rw [hno]
      simp only [TS, hk2]

end Go.Proofs.YtaibhjpgbckbkaaGreatDoor.Sx
