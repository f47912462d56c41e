/- The statement of SuiteCopies: a list of slices, read out of a world; the call, seen from outside. -/
import Derived.Deep.Slices
import Derived.Test.YtjomfjihopegmaaGreatDoorQL
section
open Go Go.Proofs.YtjomfjihopegmaaGreatDoor
set_option maxRecDepth 100000
namespace Go.Proofs.YtjomfjihopegmaaGreatDoor.Suc
open Go.ChangeShapes Go.WideShapes Go.ChangeAt Go.RowKit Go.Proofs.YtjomfjihopegmaaGreatDoor.Sx
theorem ll_of_trod {H : Type} {enc : TypeId × Value → H} {P : Program} {w : World} {held : Bool} {fuel : Nat} {tl tb t5 : TypeId} {cs : List Value} {x : DataW H × List MemPlace} (hl : P.underlying tl = some (.slice tb)) (ht : P.underlying tb = some (.slice t5)) (h5 : P.underlying t5 = some (.int .u8)) (hc5 : P.cellsOf t5 = 1) (hcb : P.cellsOf tb = 1)
  (h : DataW.trod enc P w 0 (fun _ => true) held fuel tl cs = some x) : ∃ (v : Value) (us : List Value) (ds : List (List Int)), cs = [v] ∧ FrozenL w (fun _ => False) v us ∧ us.length = ds.length ∧ (∀ (i : Nat) (u : Value) (d : List Int), us[i]? = some u → ds[i]? = some d → FrozenRd w (fun _ => False) u d) ∧
   Bts ds.flatten ∧ rosV ds.length v = some v := by
 rcases Go.Deep.open_slice1 hl hcb h with ⟨rfl, _⟩ | ⟨a, len, cap, m, n, V, D, Pl, rfl, _, hle, _, hm, _, hx⟩
 ·exact ⟨_, [], [], rfl, ⟨.inl ⟨.nil, rfl⟩, (fun n hn => by simp [roBlk] at hn)⟩, rfl, (fun i u d hu => by simp at hu), (fun y hy => by simp at hy), (by simp [rosV])⟩
 ·simp only [if_true] at hm
  subst hm
  have key : ∀ i, i < m → ∃ xs, RdOK w .u8 (V i) xs ∧ Bts xs := fun i hi => by
   obtain ⟨v, xs, e, h1, h2⟩ := ro_of_trod ht h5 hc5 (hx i hi).2
   simp only [List.cons.injEq, and_true] at e
   subst e
   exact ⟨xs, h1, h2⟩
  let X : Nat → List Int := fun i => if hi : i < m then Classical.choose (key i hi) else []
  have hX : ∀ i, i < m → RdOK w .u8 (V i) (X i) ∧ Bts (X i) := fun i hi => by
   simp only [X, dif_pos hi]
   exact Classical.choose_spec (key i hi)
  have hat : ∀ {α : Type} (f : Nat → α) (i : Nat) (u : α), ((List.range len).map f)[i]? = some u → i < len ∧ u = f i := fun f i u hu => by
   rw [List.getElem?_map] at hu
   obtain ⟨k, hk, e⟩ := Option.map_eq_some_iff.1 hu
   have hi : i < len := by simpa using (List.getElem?_eq_some_iff.1 hk).1
   rw [List.getElem?_range hi] at hk
   cases hk
   exact ⟨hi, e.symm⟩
  have hul : ((List.range len).map V).length = len := by simp
  refine ⟨_, (List.range len).map V, (List.range len).map X, rfl, ?_, by simp, fun i u d hu hd => ?_, fun y hy => ?_, ?_⟩
  ·by_cases h0 : m = 0
   ·subst h0
    have : len = 0 := by omega
    subst this
    exact ⟨.inl ⟨⟨_, rfl⟩, rfl⟩, fun n hn => by simp [roBlk] at hn⟩
   ·have hc0 := (hx 0 (by omega)).1
    obtain ⟨b, o, s⟩ := a
    have hs : s = none := by
     have := World.cell?_spot hc0
     cases s with
     | none => rfl
     | some s => simp [Addr.add] at this
    subst hs
    have hlt : b < w.heap.size := by
     rw [add_addr] at hc0
     exact cell_lt hc0
    refine ⟨.inr ⟨b, o, m, by rw [hul], hlt, by omega, fun j u hj => ?_⟩, fun n hn => ⟨?_, fun q => q⟩⟩
    ·obtain ⟨hj, rfl⟩ := hat V j u hj
     have := (hx j (by omega)).1
     rwa [add_addr] at this
    ·have : n = b := by
      unfold roBlk at hn
      split at hn
      ·cases hn
      ·simpa [Value.ownBlock] using hn.symm
     subst this
     exact hlt
  ·obtain ⟨hi, rfl⟩ := hat V i u hu
   obtain ⟨_, rfl⟩ := hat X i d hd
   exact (hX i (by omega)).1.frozen
  ·obtain ⟨d, hd, hyd⟩ := List.mem_flatten.1 hy
   obtain ⟨i, hi, rfl⟩ := List.mem_map.1 hd
   exact (hX i (by have := List.mem_range.1 hi; omega)).2 y hyd
  ·by_cases h0 : m = 0
   ·subst h0
    have : len = 0 := by omega
    subst this
    simp [rosV]
   ·have hc0 := (hx 0 (by omega)).1
    have hs : a.spot = none := by
     have := World.cell?_spot hc0
     obtain ⟨b, o, s⟩ := a
     cases s with
     | none => rfl
     | some s => simp [Addr.add] at this
    simp [rosV, hle, hs]
theorem walk {W : World} (h : laidMet Tryz.prog listed W) {v : Value} {us : List Value} {c : List Int} {ds : List (List Int)} (h2 : c.length = 32) (hL : FrozenL W (fun _ => False) v us) (hul : us.length = ds.length)
  (hF : ∀ (i : Nat) (u : Value) (d : List Int), us[i]? = some u → ds[i]? = some d → FrozenRd W (fun _ => False) u d) (hv : rosV ds.length v = some v) :
  Calls Tryz.prog 3 #[.agg (c.map (Value.int .u8)).toArray, v] W fun e w' => e = .returned (.bool true) ∧ Below W.heap.size W w' := by
 obtain ⟨V, k1, k2, k3, k4⟩ := laid_ok h [(62, .rol ds)] [(62, .tuple (v :: us).toArray)] rfl fun V hV x hx => by
  simp only [List.mem_cons, List.not_mem_nil, or_false] at hx
  subst hx
  exact ⟨⟨_, rfl, trivial⟩, rfl, v, us, by rw [hV]; rfl, hL, hul, hF⟩
 have k6 : V.σ 62 = some (.tuple (v :: us).toArray) := (k4 62).trans rfl
 refine calls (f3_call c ds h2 (env exA 0) rfl) Tryz.func3 (by kernel_rfl) (c := codeOf Tryz.f3) rfl k1 (fun n l hn => k2 n l hn) (fun l hl1 _ => k3 l hl1) k3 (xs := [.agg (c.map (Value.int .u8)).toArray, v]) ?_ fun V' x w' _ hx hT => ?_
 ·simp only [denL, den, k6, Option.bind_some, rslV, List.head?_cons, hv, Option.map_some]
 ·have hx : den V' (.bool true true) = some x := hx
  simp only [den, Option.some.injEq] at hx
  subst hx
  exact ⟨rfl, hT.frame.os, hT.frame.tape, hT.frame.output, hT.frame.size, fun k hk => hT.frame.block k hk (fun h => h)⟩
end Go.Proofs.YtjomfjihopegmaaGreatDoor.Suc
end
