/- The symbolic executor, first text: symbolic values and blocks, what they denote, effects. No program in sight. -/
import Derived.WalkKit
import Derived.Orders
import Derived.Laws.AppendOwnNone
import Derived.Deep.AppendSrc
section
open Go
namespace Go.Proofs.YtjomfjihopegmaaGreatDoor.Sx
inductive SV where
 | int (s : Bool) (k : IntKind) (n : Int)
 | bool (s : Bool) (b : Bool)
 | ptr (l : Nat) (s : Bool) (off : Nat)
 | slc (l : Nat) (s : Bool) (off len cap : Nat)
 | agg (vs : List SV)
 | tup (vs : List SV)
 | fn (f : Fn) (first capt : List SV)
 | ifc (t : TypeId) (v : SV)
 | raw (v : Value)
 | buf (l : Nat)
 | bptr (l : Nat) (off : Nat)
 | bslc (l : Nat) (lo hi : Nat)
 | slcR (l : Nat) (off len lo : Nat)
 | ros (l n : Nat)
 | ai (k : IntKind) (xs : List Int)
 | slk (l n cap sz j le : Nat)
 | rsl (l n : Nat)
 | rse (l i n : Nat)
 | rpt (l i : Nat)
structure Val where
 β : Nat → Option (Nat × Nat)
 σ : Nat → Option Value
def capOf : Option Value → Option Nat
 | some (.int _ c) => some c.toNat
 | _ => none
def rosV (n : Nat) : Value → Option Value
 | .slice none m c => if m = 0 ∧ n = 0 ∧ c = 0 then some (.slice none 0 0) else none
 | .slice (some a) m c => if m = n ∧ n ≤ c ∧ (c = 0 ∨ a.spot = none) then some (.slice (some a) m c) else none
 | _ => none
def Bare (v : Value) : Prop := ∃ a, v = .slice a 0 0
theorem Bare.nil : Bare (.slice none 0 0) := ⟨none, rfl⟩
theorem rosV_ok {n : Nat} {v x : Value} (h : rosV n v = some x) : x = v ∧ ((Bare v ∧ n = 0) ∨ ∃ b o c, v = .slice (some ⟨b, o, none⟩) n c ∧ n ≤ c) := by
 unfold rosV at h
 split at h
 ·split at h
  ·rename_i hc; obtain ⟨rfl, rfl, rfl⟩ := hc; cases h; exact ⟨rfl, .inl ⟨.nil, rfl⟩⟩
  ·cases h
 ·rename_i a m c
  split at h
  ·rename_i hc; obtain ⟨rfl, hn, hs⟩ := hc; cases h
   obtain ⟨b, o, s⟩ := a
   rcases hs with rfl | hs
   ·have : m = 0 := by omega
    subst this
    exact ⟨rfl, .inl ⟨⟨_, rfl⟩, rfl⟩⟩
   simp only at hs
   subst hs
   exact ⟨rfl, .inr ⟨b, o, c, rfl, hn⟩⟩
  ·cases h
 ·cases h
def roBlk : Value → Option Nat
 | .slice _ _ 0 => none
 | v => v.ownBlock
theorem roBlk_own {v : Value} {n : Nat} (h : roBlk v = some n) : v.ownBlock = some n := by
 unfold roBlk at h
 split at h
 ·cases h
 ·exact h
def rslV (n : Nat) : Value → Option Value
 | .tuple xs => xs.toList.head?.bind (rosV n)
 | _ => none
def rseV (i n : Nat) : Value → Option Value
 | .tuple xs => (xs.toList[i + 1]?).bind (rosV n)
 | _ => none
def rptV (i : Nat) : Value → Option Value
 | .tuple xs => xs.toList.head?.bind fun v => match v with
   | .slice (some a) _ _ => some (.pointer (some (a.add i)))
   | _ => none
 | _ => none
def tupBlk : Value → Option Nat
 | .tuple xs => xs.toList.head?.bind Value.ownBlock
 | _ => none
mutual
def den (V : Val) : SV → Option Value
 | .int _ k n => some (.int k n)
 | .bool _ b => some (.bool b)
 | .ptr l _ off => (V.β l).map fun p => .pointer (some ⟨p.1, p.2 + off, none⟩)
 | .slc l _ off len cap => (V.β l).map fun p => .slice (some ⟨p.1, p.2 + off, none⟩) len cap
 | .agg vs => (denL V vs).map fun xs => .agg xs.toArray
 | .tup vs => (denL V vs).map fun xs => .tuple xs.toArray
 | .fn f fs cs => (denL V fs).bind fun x => (denL V cs).map fun y => .func f x.toArray y.toArray
 | .ifc t v => (den V v).map fun x => .iface t x
 | .raw v => some v
 | .buf l => V.σ l
 | .bptr l off => match V.σ l with
   | some (.slice (some a) _ _) => some (.pointer (some (a.add off)))
   | _ => none
 | .bslc l lo hi => match V.σ l with
   | some (.slice a _ cap) => some (.slice (if cap = lo then a else a.map (·.add lo)) (hi - lo) (cap - lo))
   | _ => none
 | .slcR l off len lo => (V.β l).bind fun p => (capOf (V.σ l)).map fun c => .slice (some ⟨p.1, p.2 + off, none⟩) len (c - lo)
 | .ros l n => (V.σ l).bind (rosV n)
 | .ai k xs => some (.agg (xs.map (Value.int k)).toArray)
 | .slk l n cap sz j le => (V.β l).bind fun p => (V.β le).bind fun q => match decide (q = (p.1, p.2 + j * sz)) with
   | true => some (.slice (some ⟨p.1, p.2, none⟩) n cap)
   | false => none
 | .rsl l n => (V.σ l).bind (rslV n)
 | .rse l i n => (V.σ l).bind (rseV i n)
 | .rpt l i => (V.σ l).bind (rptV i)
def denL (V : Val) : List SV → Option (List Value)
 | [] => some []
 | v :: vs => (den V v).bind fun x => (denL V vs).map fun xs => x :: xs
end
def Val.le (V V' : Val) : Prop := (∀ l p, V.β l = some p → V'.β l = some p) ∧ (∀ l v, V.σ l = some v → V'.σ l = some v)
theorem Val.le_refl (V : Val) : V.le V := ⟨fun _ _ h => h, fun _ _ h => h⟩
theorem Val.le_trans {U V W : Val} (h : U.le V) (k : V.le W) : U.le W := ⟨fun l p e => k.1 l p (h.1 l p e), fun l v e => k.2 l v (h.2 l v e)⟩
mutual
theorem den_mono {V V' : Val} (h : V.le V') : ∀ {v : SV} {x : Value}, den V v = some x → den V' v = some x
 | .int .., _, e => by simpa [den] using e
 | .bool .., _, e => by simpa [den] using e
 | .ptr l s off, x, e => by
   simp only [den, Option.map_eq_some_iff] at e ⊢
   obtain ⟨p, hp, rfl⟩ := e
   exact ⟨p, h.1 l p hp, rfl⟩
 | .slc l s off len cap, x, e => by
   simp only [den, Option.map_eq_some_iff] at e ⊢
   obtain ⟨p, hp, rfl⟩ := e
   exact ⟨p, h.1 l p hp, rfl⟩
 | .agg vs, x, e => by
   simp only [den, Option.map_eq_some_iff] at e ⊢
   obtain ⟨p, hp, rfl⟩ := e
   exact ⟨p, denL_mono h hp, rfl⟩
 | .tup vs, x, e => by
   simp only [den, Option.map_eq_some_iff] at e ⊢
   obtain ⟨p, hp, rfl⟩ := e
   exact ⟨p, denL_mono h hp, rfl⟩
 | .fn f fs cs, x, e => by
   simp only [den, Option.map_eq_some_iff, Option.bind_eq_some_iff] at e ⊢
   obtain ⟨p, hp, q, hq, rfl⟩ := e
   exact ⟨p, denL_mono h hp, q, denL_mono h hq, rfl⟩
 | .ifc t v, x, e => by
   simp only [den, Option.map_eq_some_iff] at e ⊢
   obtain ⟨p, hp, rfl⟩ := e
   exact ⟨p, den_mono h hp, rfl⟩
 | .raw v, x, e => by simpa [den] using e
 | .buf l, x, e => by simp only [den] at e ⊢; exact h.2 l x e
 | .bptr l off, x, e => by
   simp only [den] at e ⊢
   split at e
   ·rename_i hs; rw [h.2 l _ hs]; exact e
   ·cases e
 | .bslc l lo hi, x, e => by
   simp only [den] at e ⊢
   split at e
   ·rename_i hs; rw [h.2 l _ hs]; exact e
   ·cases e
 | .slcR l off len lo, x, e => by
   simp only [den, Option.map_eq_some_iff, Option.bind_eq_some_iff] at e ⊢
   obtain ⟨p, hp, c, hc, rfl⟩ := e
   refine ⟨p, h.1 l _ hp, c, ?_, rfl⟩
   cases hs : V.σ l with
   | none => rw [hs] at hc; cases hc
   | some v => rw [h.2 l v hs, ← hs]; exact hc
 | .ros l n, x, e => by
   simp only [den, Option.bind_eq_some_iff] at e ⊢
   obtain ⟨v, hv, hx⟩ := e
   exact ⟨v, h.2 l v hv, hx⟩
 | .ai k xs, x, e => by simpa [den] using e
 | .slk l n cap sz j le, x, e => by
   simp only [den, Option.bind_eq_some_iff] at e ⊢
   obtain ⟨p, hp, q, hq, e⟩ := e
   exact ⟨p, h.1 l p hp, q, h.1 le q hq, e⟩
 | .rsl l n, x, e => by
   simp only [den, Option.bind_eq_some_iff] at e ⊢
   obtain ⟨v, hv, hx⟩ := e
   exact ⟨v, h.2 l v hv, hx⟩
 | .rse l i n, x, e => by
   simp only [den, Option.bind_eq_some_iff] at e ⊢
   obtain ⟨v, hv, hx⟩ := e
   exact ⟨v, h.2 l v hv, hx⟩
 | .rpt l i, x, e => by
   simp only [den, Option.bind_eq_some_iff] at e ⊢
   obtain ⟨v, hv, hx⟩ := e
   exact ⟨v, h.2 l v hv, hx⟩
theorem denL_mono {V V' : Val} (h : V.le V') : ∀ {vs : List SV} {xs : List Value}, denL V vs = some xs → denL V' vs = some xs
 | [], _, e => by simpa [denL] using e
 | v :: vs, xs, e => by
   simp only [denL, Option.map_eq_some_iff, Option.bind_eq_some_iff] at e ⊢
   obtain ⟨x, hx, ys, hy, rfl⟩ := e
   exact ⟨x, den_mono h hx, ys, denL_mono h hy, rfl⟩
end
theorem denL_length {V : Val} : ∀ {vs : List SV} {xs : List Value}, denL V vs = some xs → xs.length = vs.length
 | [], _, e => by simp only [denL, Option.some.injEq] at e; subst e; rfl
 | v :: vs, xs, e => by
   simp only [denL, Option.map_eq_some_iff, Option.bind_eq_some_iff] at e
   obtain ⟨x, hx, ys, hy, rfl⟩ := e
   simp [denL_length hy]
theorem denL_get {V : Val} : ∀ {vs : List SV} {xs : List Value}, denL V vs = some xs → ∀ (i : Nat) (v : SV), vs[i]? = some v → ∃ x, xs[i]? = some x ∧ den V v = some x
 | [], _, _, i, v, hi => by simp at hi
 | v :: vs, xs, e, i, u, hi => by
   simp only [denL, Option.map_eq_some_iff, Option.bind_eq_some_iff] at e
   obtain ⟨x, hx, ys, hy, rfl⟩ := e
   cases i with
   | zero => simp only [List.getElem?_cons_zero, Option.some.injEq] at hi; subst hi; exact ⟨x, rfl, hx⟩
   | succ i => simp only [List.getElem?_cons_succ] at hi ⊢; exact denL_get hy i u hi
theorem denL_append {V : Val} : ∀ {vs us : List SV} {xs ys : List Value}, denL V vs = some xs → denL V us = some ys → denL V (vs ++ us) = some (xs ++ ys)
 | [], us, xs, ys, e, f => by simp only [denL, Option.some.injEq] at e; subst e; simpa using f
 | v :: vs, us, xs, ys, e, f => by
   simp only [denL, Option.map_eq_some_iff, Option.bind_eq_some_iff, List.cons_append] at e ⊢
   obtain ⟨x, hx, zs, hz, rfl⟩ := e
   exact ⟨x, hx, zs ++ ys, denL_append hz f, rfl⟩
theorem denL_take {V : Val} : ∀ (n : Nat) {vs : List SV} {xs : List Value}, denL V vs = some xs → denL V (vs.take n) = some (xs.take n)
 | 0, vs, xs, _ => by simp [denL]
 | n + 1, [], xs, e => by simp only [denL, Option.some.injEq] at e; subst e; simp [denL]
 | n + 1, v :: vs, xs, e => by
   simp only [denL, Option.map_eq_some_iff, Option.bind_eq_some_iff, List.take_succ_cons] at e ⊢
   obtain ⟨x, hx, zs, hz, rfl⟩ := e
   exact ⟨x, hx, zs.take n, denL_take n hz, rfl⟩
theorem denL_drop {V : Val} : ∀ (n : Nat) {vs : List SV} {xs : List Value}, denL V vs = some xs → denL V (vs.drop n) = some (xs.drop n)
 | 0, vs, xs, e => by simpa using e
 | n + 1, [], xs, e => by simp only [denL, Option.some.injEq] at e; subst e; simp [denL]
 | n + 1, v :: vs, xs, e => by
   simp only [denL, Option.map_eq_some_iff, Option.bind_eq_some_iff] at e
   obtain ⟨x, hx, zs, hz, rfl⟩ := e
   simpa using denL_drop n hz
def elV (l : Nat) : Nat → List (List Int) → List SV
 | _, [] => []
 | i, d :: r => .rse l i d.length :: elV l (i + 1) r
def pairC (xs : List (Int × Int)) : List Value := xs.flatMap fun p => [.int .i64 p.1, .int .i64 p.2]
inductive SB where
 | own (cells : List SV) (ty : TypeId)
 | ints (k : IntKind) (xs : List Int) (ty : TypeId)
 | roc (cells : List SV)
 | roi (k : IntKind) (xs : List Int)
 | rowi (k : IntKind) (xs : List Int) (ty : TypeId)
 | row (sz : Nat) (cells : List SV) (ty : TypeId)
 | vals (vs : List Value) (ty : TypeId)
 | rov (k : IntKind) (xs : List Int)
 | rowx (sz n : Nat) (ty : TypeId)
 | rowe (pre : List SV) (l : Nat) (ds : List (List Int)) (ty : TypeId)
 | rol (ds : List (List Int))
 | rof (d : List Int)
 | rowl (ds : List (List Int)) (ty : TypeId)
 | rowp (xs : List (Int × Int)) (ty : TypeId)
 | rop (xs : List (Int × Int))
 | rolz (ds : List (List Int)) (z : Nat)
 | gone
def SB.cells (V : Val) : SB → Option (List Value)
 | .own cs _ => denL V cs
 | .ints k xs _ => some (xs.map (Value.int k))
 | .roc cs => denL V cs
 | .roi k xs => some (xs.map (Value.int k))
 | .rowi k xs _ => some (xs.map (Value.int k))
 | .row _ cs _ => denL V cs
 | .vals vs _ => some vs
 | .rov k xs => some (xs.map (Value.int k))
 | .rowx _ _ _ => some []
 | .rowe pre l ds _ => denL V (pre ++ elV l 0 ds)
 | .rol _ => some []
 | .rof _ => some []
 | .rowl _ _ => some []
 | .rowp xs _ => some (pairC xs)
 | .rop xs => some (pairC xs)
 | .rolz _ _ => some []
 | .gone => some []
def SB.owned : SB → Bool
 | .roc _ | .roi _ _ | .rov _ _ | .rol _ | .rof _ | .rop _ | .rolz _ _ | .gone => false
 | _ => true
def SB.blk (V : Val) (l : Nat) : SB → Option Nat
 | .rowi .. => (V.σ l).bind Value.ownBlock
 | .rov .. => (V.σ l).bind roBlk
 | .rowx .. => (V.σ l).bind Value.ownBlock
 | .rowl .. => (V.σ l).bind tupBlk
 | .rowp .. => (V.σ l).bind Value.ownBlock
 | .rop .. => (V.σ l).bind roBlk
 | .rol .. => none
 | .rof .. => none
 | .rolz .. => none
 | .gone => none
 | _ => (V.β l).map (·.1)
theorem SB.cells_mono {V V' : Val} (h : V.le V') {B : SB} {cs : List Value} (e : B.cells V = some cs) : B.cells V' = some cs := by
 cases B <;> simp only [SB.cells] at e ⊢ <;> first | exact denL_mono h e | exact e
def blk00 (w : World) (b : Nat) : Prop := ∃ c t, w.heap[b]? = some (.cells c t (0, 0))
theorem blk00.lt {w : World} {b : Nat} (h : blk00 w b) : b < w.heap.size := by obtain ⟨c, t, h⟩ := h; exact (Array.getElem?_eq_some_iff.1 h).1
theorem blk00.keep {w w' : World} {b : Nat} (h : blk00 w b) (e : w'.heap[b]? = w.heap[b]?) : blk00 w' b := by obtain ⟨c, t, h⟩ := h; exact ⟨c, t, e.trans h⟩
def ro00 (w : World) (b : Nat) (cs : List Value) : Prop := b < w.heap.size ∧ ∀ s, cs[0]? = some (.string s) → blk00 w b
theorem ro00.lt {w : World} {b : Nat} {cs : List Value} (h : ro00 w b cs) : b < w.heap.size := h.1
theorem ro00.of {w : World} {b : Nat} {cs : List Value} {c : Array Value} {t : TypeId} (h : w.heap[b]? = some (.cells c t (0, 0))) : ro00 w b cs := ⟨(Array.getElem?_eq_some_iff.1 h).1, fun _ _ => ⟨c, t, h⟩⟩
theorem ro00.keep {w w' : World} {b : Nat} {cs : List Value} (h : ro00 w b cs) (e : w'.heap[b]? = w.heap[b]?) : ro00 w' b cs :=
 ⟨Nat.lt_of_not_le fun q => (by rw [Array.getElem?_eq_none q, Array.getElem?_eq_getElem h.1] at e; cases e), fun s hs => (h.2 s hs).keep e⟩
def RdOK (w : World) (k : IntKind) (x : Value) (ys : List Int) : Prop :=
 (Bare x ∧ ys = []) ∨ ∃ b o c, x = .slice (some ⟨b, o, none⟩) ys.length c ∧ b < w.heap.size ∧ ys.length ≤ c ∧ ∀ (j : Nat) (u : Value), (ys.map (Value.int k))[j]? = some u → w.cell? ⟨b, o + j, none⟩ = some u
def RpOK (w : World) (x : Value) (ys : List (Int × Int)) : Prop :=
 (Bare x ∧ ys = []) ∨ ∃ b o c, x = .slice (some ⟨b, o, none⟩) ys.length c ∧ b < w.heap.size ∧ ys.length ≤ c ∧ ∀ (j : Nat) (u : Value), (pairC ys)[j]? = some u → w.cell? ⟨b, o + j, none⟩ = some u
def okB (V : Val) (w : World) (l : Nat) (B : SB) : Prop :=
 ∃ cs, B.cells V = some cs ∧
 match B with
 | .own _ ty | .ints _ _ ty | .vals _ ty => ∃ b, V.β l = some (b, 0) ∧ w.heap[b]? = some (.cells cs.toArray ty (0, 0))
 | .roc _ | .roi _ _ => ∃ b o, V.β l = some (b, o) ∧ ro00 w b cs ∧ ∀ (j : Nat) (v : Value), cs[j]? = some v → w.cell? ⟨b, o + j, none⟩ = some v
 | .rowi _ xs ty => ∃ v, V.σ l = some v ∧ w.ownsRow 0 ty 1 v xs.length cs
 | .rowx sz n ty => ∃ v us, V.σ l = some v ∧ w.ownsRow 0 ty sz v n us ∧ ∀ q ∈ us, q.oneCell' = true
 | .row sz _ ty => ∃ b cap cur, V.β l = some (b, 0) ∧ V.σ l = some (.int .i64 (cap : Nat)) ∧ w.heap[b]? = some (.cells cur ty (0, 0)) ∧ cap ≤ maxLen ∧ cur.size = cap * sz ∧ (∃ n, cs.length = n * sz ∧ n ≤ cap) ∧ cur.toList.take cs.length = cs
 | .rov k xs => ∃ v, V.σ l = some v ∧ RdOK w k v xs
 | .rowe _ _ _ ty => ∃ b cap cur, V.β l = some (b, 0) ∧ V.σ l = some (.int .i64 (cap : Nat)) ∧ w.heap[b]? = some (.cells cur ty (0, 0)) ∧ cap ≤ maxLen ∧ cur.size = cap * 1 ∧ (∃ n, cs.length = n * 1 ∧ n ≤ cap) ∧ cur.toList.take cs.length = cs
 | .rowl _ ty => ∃ v us, V.σ l = some (.tuple (v :: us).toArray) ∧ w.ownsRow 0 ty 1 v us.length us
 | .rowp xs ty => ∃ v, V.σ l = some v ∧ w.ownsRow 0 ty 2 v xs.length cs
 | .rop xs => ∃ v, V.σ l = some v ∧ RpOK w v xs
 | .rol _ => True
 | .rof _ => True
 | .rolz _ _ => True
 | .gone => True
structure FrameOK (w0 : World) (M : Nat → Prop) (w : World) : Prop where
 os : w.os = w0.os
 tape : w.tape = w0.tape
 output : w.output = w0.output
 size : w0.heap.size ≤ w.heap.size
 block : ∀ k, k < w0.heap.size → ¬ M k → w.heap[k]? = w0.heap[k]?
theorem FrameOK.refl (w : World) (M : Nat → Prop) : FrameOK w M w := ⟨rfl, rfl, rfl, Nat.le_refl _, fun _ _ _ => rfl⟩
theorem FrameOK.trans {a b c : World} {M N : Nat → Prop} (h : FrameOK a M b) (k : FrameOK b N c) (hN : ∀ n, n < a.heap.size → N n → M n) : FrameOK a M c :=
 ⟨k.os.trans h.os, k.tape.trans h.tape, k.output.trans h.output, Nat.le_trans h.size k.size,
  fun i hi hM => (k.block i (Nat.lt_of_lt_of_le hi h.size) (fun e => hM (hN i hi e))).trans (h.block i hi hM)⟩
theorem FrameOK.mono {w0 w : World} {M N : Nat → Prop} (h : FrameOK w0 M w) (hN : ∀ n, n < w0.heap.size → M n → N n) : FrameOK w0 N w :=
 ⟨h.os, h.tape, h.output, h.size, fun k hk hn => h.block k hk (fun e => hn (hN k hk e))⟩
abbrev Tab := Nat → Option SB
def FrozenRd (w0 : World) (M : Nat → Prop) (u : Value) (d : List Int) : Prop := RdOK w0 .u8 u d ∧ ∀ n, roBlk u = some n → n < w0.heap.size ∧ ¬ M n
def FrozenL (w0 : World) (M : Nat → Prop) (v : Value) (us : List Value) : Prop :=
 ((Bare v ∧ us = []) ∨ ∃ b o c, v = .slice (some ⟨b, o, none⟩) us.length c ∧ b < w0.heap.size ∧ us.length ≤ c ∧ ∀ (j : Nat) (u : Value), us[j]? = some u → w0.cell? ⟨b, o + j, none⟩ = some u) ∧ ∀ n, roBlk v = some n → n < w0.heap.size ∧ ¬ M n
def froB (w0 : World) (M : Nat → Prop) (V : Val) (l : Nat) : SB → Prop
 | .rol ds => ∃ v us, V.σ l = some (.tuple (v :: us).toArray) ∧ FrozenL w0 M v us ∧ us.length = ds.length ∧ ∀ (i : Nat) (u : Value) (d : List Int), us[i]? = some u → ds[i]? = some d → FrozenRd w0 M u d
 | .rof d => ∃ u, V.σ l = some u ∧ FrozenRd w0 M u d
 | .rolz ds z => ∃ v us, V.σ l = some (.tuple (v :: us).toArray) ∧ FrozenL w0 M v us ∧ us.length = ds.length + z ∧ (∀ (i : Nat) (u : Value) (d : List Int), us[i]? = some u → ds[i]? = some d → FrozenRd w0 M u d) ∧ ∀ (i : Nat) (u : Value), us[i]? = some u → ds.length ≤ i → u = .slice none 0 0
 | .rowl ds _ => ∃ v us, V.σ l = some (.tuple (v :: us).toArray) ∧ us.length = ds.length ∧ ∀ (i : Nat) (u : Value) (d : List Int), us[i]? = some u → ds[i]? = some d → FrozenRd w0 M u d
 | _ => True
def SB.plain : SB → Bool
 | .rol _ | .rowl _ _ | .rof _ | .rolz _ _ => false
 | _ => true
theorem froB_plain {w0 : World} {M : Nat → Prop} {V : Val} {l : Nat} {B : SB} (h : B.plain = true) : froB w0 M V l B := by
 cases B <;> first | trivial | cases h
structure TabOK (w0 : World) (M : Nat → Prop) (V : Val) (T : Tab) (w : World) : Prop where
 ok : ∀ l B, T l = some B → okB V w l B
 dist : ∀ l B l' B' n, l ≠ l' → T l = some B → T l' = some B' → B.owned = true → B.blk V l = some n → B'.blk V l' ≠ some n
 perm : ∀ l B n, T l = some B → B.owned = true → B.blk V l = some n → w0.heap.size ≤ n ∨ M n
 frame : FrameOK w0 M w
 fro : ∀ l B, T l = some B → froB w0 M V l B
structure Eff where
 obl : List Prop := []
 val : SV
 new : List SB := []
 wr : List (Nat × SB) := []
def look {α : Type} (l : Nat) : List (Nat × α) → Option α
 | [] => none
 | (k, v) :: r => match Nat.beq k l with
   | true => some v
   | false => look l r
def newL {α : Type} (lab : Nat) : List α → List (Nat × α)
 | [] => []
 | v :: r => (lab, v) :: newL (lab + 1) r
def Eff.tab (lab : Nat) (e : Eff) : List (Nat × SB) := e.wr ++ newL lab e.new
def upd (T : Tab) (lab : Nat) (e : Eff) : Tab := fun l => match look l (e.tab lab) with
 | some B => some B
 | none => T l
theorem look_append {α : Type} (l : Nat) : ∀ (a b : List (Nat × α)), look l (a ++ b) = match look l a with | some v => some v | none => look l b
 | [], b => rfl
 | (k, v) :: a, b => by
   simp only [List.cons_append, look]
   cases h : Nat.beq k l with
   | true => rfl
   | false => exact look_append l a b
theorem look_cons_eq {α : Type} (l : Nat) (v : α) (r : List (Nat × α)) : look l ((l, v) :: r) = some v := by simp [look, Nat.beq_refl]
theorem look_cons_ne {α : Type} {l k : Nat} (h : k ≠ l) (v : α) (r : List (Nat × α)) : look l ((k, v) :: r) = look l r := by
 have : Nat.beq k l = false := by rw [← Bool.not_eq_true, Nat.beq_eq]; exact h
 simp [look, this]
theorem look_mem {α : Type} {l : Nat} {v : α} : ∀ {r : List (Nat × α)}, look l r = some v → (l, v) ∈ r
 | [], h => by simp [look] at h
 | (k, u) :: r, h => by
   by_cases e : k = l
   ·subst e; rw [look_cons_eq] at h; cases h; exact List.mem_cons_self
   ·rw [look_cons_ne e] at h; exact List.mem_cons_of_mem _ (look_mem h)
theorem look_newL {α : Type} : ∀ (lab : Nat) (l : List α) (k : Nat), look k (newL lab l) = if lab ≤ k then l[k - lab]? else none
 | lab, [], k => by simp [newL, look]
 | lab, v :: r, k => by
   by_cases e : lab = k
   ·subst e; simp [newL, look_cons_eq]
   ·rw [newL, look_cons_ne e, look_newL (lab + 1) r k]
    by_cases h : lab ≤ k
    ·rw [if_pos (by omega), if_pos h]
     obtain ⟨d, rfl⟩ : ∃ d, k = lab + 1 + d := ⟨k - (lab + 1), by omega⟩
     rw [show lab + 1 + d - lab = d + 1 from by omega, show lab + 1 + d - (lab + 1) = d from by omega]
     simp
    ·rw [if_neg (by omega), if_neg h]
def Val.ext (V : Val) (lab : Nat) (V' : Val) : Prop := V.le V' ∧ ∀ l, (l < lab ∨ lab + 8 ≤ l) → V'.β l = V.β l ∧ V'.σ l = V.σ l
theorem Val.ext_refl (V : Val) (lab : Nat) : V.ext lab V := ⟨V.le_refl, fun _ _ => ⟨rfl, rfl⟩⟩
def Val.fresh (V : Val) (lab : Nat) : Prop := ∀ l, lab ≤ l → l < lab + 8 → V.β l = none ∧ V.σ l = none
def Val.put (V : Val) (l : Nat) (p : Nat × Nat) : Val := { V with β := fun k => if k = l then some p else V.β k }
def Val.putσ (V : Val) (l : Nat) (v : Value) : Val := { V with σ := fun k => if k = l then some v else V.σ k }
theorem Val.put_ext {V : Val} {lab : Nat} (hf : V.fresh lab) (l : Nat) (h1 : lab ≤ l) (h2 : l < lab + 8) (p : Nat × Nat) : V.ext lab (V.put l p) := by
 refine ⟨⟨fun k q hk => ?_, fun _ _ h => h⟩, fun k hk => ⟨?_, rfl⟩⟩
 ·show (if k = l then some p else V.β k) = some q
  by_cases e : k = l
  ·subst e; rw [(hf k h1 h2).1] at hk; cases hk
  ·rw [if_neg e]; exact hk
 ·show (if k = l then some p else V.β k) = V.β k
  rw [if_neg (by omega)]
def Val.put2 (V : Val) (l : Nat) (p : Nat × Nat) (v : Value) : Val := (V.put l p).putσ l v
theorem Val.putσ_ext {V : Val} {lab : Nat} (hf : V.fresh lab) (l : Nat) (h1 : lab ≤ l) (h2 : l < lab + 8) (v : Value) : V.ext lab (V.putσ l v) := by
 refine ⟨⟨fun _ _ h => h, fun k q hk => ?_⟩, fun k hk => ⟨rfl, ?_⟩⟩
 ·show (if k = l then some v else V.σ k) = some q
  by_cases e : k = l
  ·subst e; rw [(hf k h1 h2).2] at hk; cases hk
  ·rw [if_neg e]; exact hk
 ·show (if k = l then some v else V.σ k) = V.σ k
  rw [if_neg (by omega)]
theorem Val.put2_ext {V : Val} {lab : Nat} (hf : V.fresh lab) (l : Nat) (h1 : lab ≤ l) (h2 : l < lab + 8) (p : Nat × Nat) (v : Value) : V.ext lab (V.put2 l p v) := by
 refine ⟨⟨fun k q hk => ?_, fun k q hk => ?_⟩, fun k hk => ⟨?_, ?_⟩⟩
 ·show (if k = l then some p else V.β k) = some q
  by_cases e : k = l
  ·subst e; rw [(hf k h1 h2).1] at hk; cases hk
  ·rw [if_neg e]; exact hk
 ·show (if k = l then some v else V.σ k) = some q
  by_cases e : k = l
  ·subst e; rw [(hf k h1 h2).2] at hk; cases hk
  ·rw [if_neg e]; exact hk
 ·show (if k = l then some p else V.β k) = V.β k
  rw [if_neg (by omega)]
 ·show (if k = l then some v else V.σ k) = V.σ k
  rw [if_neg (by omega)]
end Go.Proofs.YtjomfjihopegmaaGreatDoor.Sx
end
section
open Go
namespace Go.Proofs.YtjomfjihopegmaaGreatDoor.Sx
structure TI where
 desc : TypeDesc
 size : Nat
 bytes : Nat
 zero : List SV
abbrev Sum := List SV → Tab → Nat → Nat → Option Eff
structure Env where
 ty : Nat → Option TI
 glob : List (Nat × Nat)
 sum : Nat → Option Sum
 dsum : Nat → Option Sum
 cmp : List Nat := []
def TyOK (P : Program) (Γ : Env) : Prop := ∀ t ti, Γ.ty t = some ti → P.underlying t = some ti.desc ∧
 ∃ i z, P.info? t = some i ∧ i.size = ti.size ∧ i.bytes = ti.bytes ∧ i.zero = some z ∧ ∀ V, denL V ti.zero = some z.cells.toList
def ofVal0 : Value → SV
 | .int k n => .int true k n
 | .bool b => .bool true b
 | v => .raw v
def ofVal : Value → SV
 | .agg cs => .agg (cs.toList.map ofVal0)
 | v => ofVal0 v
theorem den_ofVal0 (V : Val) (v : Value) : den V (ofVal0 v) = some v := by cases v <;> simp [ofVal0, den]
theorem denL_ofVal0 (V : Val) : ∀ l : List Value, denL V (l.map ofVal0) = some l
 | [] => by simp [denL]
 | v :: l => by simp [denL, den_ofVal0, denL_ofVal0 V l]
theorem den_ofVal (V : Val) (v : Value) : den V (ofVal v) = some v := by
 cases v <;> simp [ofVal, ofVal0, den, denL_ofVal0]
def tiP (P : Program) (t : Nat) : Option TI := match P.info? t with
 | some i => match P.underlying t, i.zero with
   | some d, some z => some { desc := d, size := i.size, bytes := i.bytes, zero := z.cells.toList.map ofVal0 }
   | _, _ => none
 | none => none
theorem TyOK.prog {P : Program} {Γ : Env} (h : Γ.ty = tiP P) : TyOK P Γ := by
 intro t ti ht
 rw [h] at ht
 unfold tiP at ht
 split at ht
 case h_2 => cases ht
 rename_i i hi
 split at ht
 case h_2 => cases ht
 rename_i d z hd hz
 cases ht
 exact ⟨hd, i, z, hi, rfl, rfl, hz, fun V => denL_ofVal0 V _⟩
def ev (Γ : Env) (g : Nat → Option SV) : Operand → Option SV
 | .tmp t => g t
 | .const v => some (ofVal v)
 | .global n => (look n Γ.glob).map fun l => .ptr l true 0
 | .func f => some (.fn (.func f) [] [])
def TmpOK (V : Val) (g : Nat → Option SV) (a : Act) : Prop := ∀ t v, g t = some v → den V v = some (a.eval (.tmp t))
def GlobOK (Γ : Env) (V : Val) : Prop := ∀ n l, look n Γ.glob = some l → V.β l = some (n, 0)
theorem ev_ok {Γ : Env} {V : Val} {g : Nat → Option SV} {a : Act} (ht : TmpOK V g a) (hg : GlobOK Γ V) : ∀ {x : Operand} {v : SV}, ev Γ g x = some v → den V v = some (a.eval x)
 | .tmp t, v, h => ht t v h
 | .const c, v, h => by simp only [ev, Option.some.injEq] at h; subst h; exact den_ofVal V c
 | .global n, v, h => by
   simp only [ev, Option.map_eq_some_iff] at h
   obtain ⟨l, hl, rfl⟩ := h
   simp [den, hg n l hl, Act.eval]
 | .func f, v, h => by simp only [ev, Option.some.injEq] at h; subst h; simp [den, denL, Act.eval]
def evL (Γ : Env) (g : Nat → Option SV) : List Operand → Option (List SV)
 | [] => some []
 | x :: r => match ev Γ g x, evL Γ g r with
   | some v, some vs => some (v :: vs)
   | _, _ => none
theorem evL_ok {Γ : Env} {V : Val} {g : Nat → Option SV} {a : Act} (ht : TmpOK V g a) (hg : GlobOK Γ V) : ∀ {xs : List Operand} {vs : List SV}, evL Γ g xs = some vs → denL V vs = some (xs.map a.eval)
 | [], vs, h => by simp only [evL, Option.some.injEq] at h; subst h; simp [denL]
 | x :: r, vs, h => by
   simp only [evL] at h
   split at h
   ·rename_i v us hv hus
    cases h
    simp [denL, ev_ok ht hg hv, evL_ok ht hg hus]
   ·cases h
def need (s : Bool) (p : Prop) [Decidable p] : Option (List Prop) := match s with
 | true => match decide p with
   | true => some []
   | false => none
 | false => some [p]
theorem need_ok {s : Bool} {p : Prop} [Decidable p] {l : List Prop} (h : need s p = some l) (ho : ∀ q ∈ l, q) : p := by
 cases s with
 | true =>
   simp only [need] at h
   split at h
   ·rename_i hd; exact of_decide_eq_true hd
   ·cases h
 | false => simp only [need, Option.some.injEq] at h; subst h; exact ho p (by simp)
def mkB (h : Option Bool) (s : Bool) (b : Bool) : Eff := match s with
 | true => { val := .bool true b }
 | false => match h with
   | some c => { obl := [b = c], val := .bool true c }
   | none => { val := .bool false b }
theorem mkB_ok (V : Val) {h : Option Bool} {s b : Bool} (ho : ∀ q ∈ (mkB h s b).obl, q) : den V (mkB h s b).val = some (.bool b) ∧ (mkB h s b).new = [] ∧ (mkB h s b).wr = [] := by
 unfold mkB at *
 split
 ·simp [den]
 ·split
  ·rename_i c
   have hb : b = c := ho (b = c) (by simp)
   subst hb
   simp [den]
  ·simp [den]
theorem upd_none (T : Tab) (lab : Nat) {e : Eff} (hn : e.new = []) (hw : e.wr = []) : upd T lab e = T := by
 funext l; simp [upd, Eff.tab, hn, hw, newL, look]
def Sim (P : Program) (w0 : World) (M : Nat → Prop) (V : Val) (T : Tab) (lab : Nat) (e : Eff) (o : Oper) (a : Act) (w : World) : Prop :=
 ∀ K Q, (∀ V' x w', V.ext lab V' → den V' e.val = some x → TabOK w0 M V' (upd T lab e) w' → K (a.put o.dst x) w') → o.wp P a w K Q
theorem sim_pure {P : Program} {w0 : World} {M : Nat → Prop} {V : Val} {T : Tab} {lab : Nat} {e : Eff} {o : Oper} {a : Act} {w : World} {x : Value}
  (hr : (execOp a.eval o).run P w = .ok (.value x) w) (hx : den V e.val = some x) (hn : e.new = []) (hw : e.wr = []) (hT : TabOK w0 M V T w) : Sim P w0 M V T lab e o a w := by
 intro K Q hK
 unfold Oper.wp
 rw [hr, Oper.upon_value]
 exact hK V x w (V.ext_refl lab) hx (by rw [upd_none T lab hn hw]; exact hT)
section Tables
variable {w0 w w' : World} {M : Nat → Prop} {V V' : Val} {T : Tab} {lab : Nat}
theorem TabOK.known (h : TabOK w0 M V T w) {l : Nat} {B : SB} (hl : T l = some B) (hg : B ≠ .gone) : V.β l ≠ none ∨ V.σ l ≠ none := by
 obtain ⟨cs, _, h2⟩ := h.ok l B hl
 cases B with
 | own cells ty => obtain ⟨b, hb, _⟩ := h2; left; rw [hb]; simp
 | ints k xs ty => obtain ⟨b, hb, _⟩ := h2; left; rw [hb]; simp
 | vals vs ty => obtain ⟨b, hb, _⟩ := h2; left; rw [hb]; simp
 | roc cells => obtain ⟨b, o, hb, _⟩ := h2; left; rw [hb]; simp
 | roi k xs => obtain ⟨b, o, hb, _⟩ := h2; left; rw [hb]; simp
 | rowi k xs ty => obtain ⟨v, hv, _⟩ := h2; right; rw [hv]; simp
 | rowx sz n ty => obtain ⟨v, us, hv, _⟩ := h2; right; rw [hv]; simp
 | row sz cells ty => obtain ⟨b, _, _, hb, _⟩ := h2; left; rw [hb]; simp
 | rov k xs => obtain ⟨v, hv, _⟩ := h2; right; rw [hv]; simp
 | rowe pre k ds ty => obtain ⟨b, _, _, hb, _⟩ := h2; left; rw [hb]; simp
 | rol ds => obtain ⟨v, us, hv, _⟩ := h.fro l _ hl; right; rw [hv]; simp
 | rof d => obtain ⟨u, hv, _⟩ := h.fro l _ hl; right; rw [hv]; simp
 | rowl ds ty => obtain ⟨v, us, hv, _⟩ := h2; right; rw [hv]; simp
 | rowp xs ty => obtain ⟨v, hv, _⟩ := h2; right; rw [hv]; simp
 | rop xs => obtain ⟨v, hv, _⟩ := h2; right; rw [hv]; simp
 | rolz ds z => obtain ⟨v, us, hv, _⟩ := h.fro l _ hl; right; rw [hv]; simp
 | gone => exact absurd rfl hg
theorem ownBlock_lt {ty : TypeId} {sz n : Nat} {v : Value} {cs : List Value} (h : w.ownsRow 0 ty sz v n cs) {k : Nat} (hk : v.ownBlock = some k) : k < w.heap.size := (h.lt k hk).2
theorem okB.lt {l : Nat} {B : SB} (h : okB V w l B) {n : Nat} (hn : B.blk V l = some n) : n < w.heap.size := by
 obtain ⟨cs, _, h2⟩ := h
 cases B with
 | own cells ty => obtain ⟨b, hb, hh⟩ := h2; simp [SB.blk, hb] at hn; subst hn; exact (Array.getElem?_eq_some_iff.1 hh).1
 | ints k xs ty => obtain ⟨b, hb, hh⟩ := h2; simp [SB.blk, hb] at hn; subst hn; exact (Array.getElem?_eq_some_iff.1 hh).1
 | vals vs ty => obtain ⟨b, hb, hh⟩ := h2; simp [SB.blk, hb] at hn; subst hn; exact (Array.getElem?_eq_some_iff.1 hh).1
 | roc cells => obtain ⟨b, o, hb, hlt, _⟩ := h2; simp [SB.blk, hb] at hn; subst hn; exact hlt.lt
 | roi k xs => obtain ⟨b, o, hb, hlt, _⟩ := h2; simp [SB.blk, hb] at hn; subst hn; exact hlt.lt
 | rowi k xs ty => obtain ⟨v, hv, ho⟩ := h2; simp [SB.blk, hv] at hn; exact ownBlock_lt ho hn
 | rowx sz n ty => obtain ⟨v, us, hv, ho, _⟩ := h2; simp [SB.blk, hv] at hn; exact ownBlock_lt ho hn
 | row sz cells ty => obtain ⟨b, _, _, hb, _, hh, _⟩ := h2; simp [SB.blk, hb] at hn; subst hn; exact (Array.getElem?_eq_some_iff.1 hh).1
 | rov k xs =>
   obtain ⟨v, hv, ho⟩ := h2
   simp only [SB.blk, hv, Option.bind_some] at hn
   rcases ho with ⟨⟨a, rfl⟩, _⟩ | ⟨b, o, c, rfl, hlt, _⟩
   ·cases hn
   ·cases roBlk_own hn; exact hlt
 | rowl ds ty => obtain ⟨v, us, hv, ho⟩ := h2; simp [SB.blk, hv, tupBlk] at hn; exact ownBlock_lt ho hn
 | rowe pre k ds ty => obtain ⟨b, _, _, hb, _, hh, _⟩ := h2; simp [SB.blk, hb] at hn; subst hn; exact (Array.getElem?_eq_some_iff.1 hh).1
 | rowp xs ty => obtain ⟨v, hv, ho⟩ := h2; simp [SB.blk, hv] at hn; exact ownBlock_lt ho hn
 | rop xs =>
   obtain ⟨v, hv, ho⟩ := h2
   simp only [SB.blk, hv, Option.bind_some] at hn
   rcases ho with ⟨⟨a, rfl⟩, _⟩ | ⟨b, o, c, rfl, hlt, _⟩
   ·cases hn
   ·cases roBlk_own hn; exact hlt
 | rol ds => simp [SB.blk] at hn
 | rof d => simp [SB.blk] at hn
 | rolz ds z => simp [SB.blk] at hn
 | gone => simp [SB.blk] at hn
theorem ownsRow_same {ty : TypeId} {sz n : Nat} {v : Value} {cs : List Value} (h : w.ownsRow 0 ty sz v n cs) (hb : ∀ k, v.ownBlock = some k → w'.heap[k]? = w.heap[k]?) : w'.ownsRow 0 ty sz v n cs := by
 refine ⟨h.1, ?_⟩
 rcases h.2 with hn | ⟨g, cap, cur, rfl, hb0, hh, r⟩
 ·exact .inl hn
 ·exact .inr ⟨g, cap, cur, rfl, hb0, by rw [hb g rfl]; exact hh, r⟩
theorem okB.keep {l : Nat} {B : SB} (h : okB V w l B) (hV : V.le V') (hs : w.heap.size ≤ w'.heap.size) (hb : ∀ n, B.blk V l = some n → w'.heap[n]? = w.heap[n]?) : okB V' w' l B := by
 obtain ⟨cs, hc, h2⟩ := h
 refine ⟨cs, SB.cells_mono hV hc, ?_⟩
 cases B with
 | own cells ty => obtain ⟨b, hβ, hh⟩ := h2; exact ⟨b, hV.1 _ _ hβ, by rw [hb b (by simp [SB.blk, hβ])]; exact hh⟩
 | ints k xs ty => obtain ⟨b, hβ, hh⟩ := h2; exact ⟨b, hV.1 _ _ hβ, by rw [hb b (by simp [SB.blk, hβ])]; exact hh⟩
 | vals vs ty => obtain ⟨b, hβ, hh⟩ := h2; exact ⟨b, hV.1 _ _ hβ, by rw [hb b (by simp [SB.blk, hβ])]; exact hh⟩
 | roc cells =>
   obtain ⟨b, o, hβ, hlt, hh⟩ := h2
   refine ⟨b, o, hV.1 _ _ hβ, hlt.keep (hb b (by simp [SB.blk, hβ])), fun j v hj => ?_⟩
   rw [← hh j v hj]
   exact World.cell?_of_block (w := w) (hb b (by simp [SB.blk, hβ]))
 | roi k xs =>
   obtain ⟨b, o, hβ, hlt, hh⟩ := h2
   refine ⟨b, o, hV.1 _ _ hβ, hlt.keep (hb b (by simp [SB.blk, hβ])), fun j v hj => ?_⟩
   rw [← hh j v hj]
   exact World.cell?_of_block (w := w) (hb b (by simp [SB.blk, hβ]))
 | rowi k xs ty => obtain ⟨v, hσ, ho⟩ := h2; exact ⟨v, hV.2 _ _ hσ, ownsRow_same ho (fun k hk => hb k (by simp [SB.blk, hσ, hk]))⟩
 | rowx sz n ty => obtain ⟨v, us, hσ, ho, hq⟩ := h2; exact ⟨v, us, hV.2 _ _ hσ, ownsRow_same ho (fun k hk => hb k (by simp [SB.blk, hσ, hk])), hq⟩
 | row sz cells ty => obtain ⟨b, cap, cur, hβ, hσ, hh, r⟩ := h2; exact ⟨b, cap, cur, hV.1 _ _ hβ, hV.2 _ _ hσ, by rw [hb b (by simp [SB.blk, hβ])]; exact hh, r⟩
 | rov k xs =>
   obtain ⟨v, hσ, ho⟩ := h2
   refine ⟨v, hV.2 _ _ hσ, ?_⟩
   rcases ho with ho | ⟨b, o, c, rfl, hlt, hc, hh⟩
   ·exact .inl ho
   ·refine .inr ⟨b, o, c, rfl, Nat.lt_of_lt_of_le hlt hs, hc, fun j v hj => ?_⟩
    rw [← hh j v hj]
    have hpos : j < xs.length := by simpa using (List.getElem?_eq_some_iff.1 hj).1
    obtain ⟨m, rfl⟩ : ∃ m, c = m + 1 := ⟨c - 1, by omega⟩
    exact World.cell?_of_block (w := w) (hb b (by simp [SB.blk, hσ, roBlk, Value.ownBlock]))
 | rowl ds ty => obtain ⟨v, us, hσ, ho⟩ := h2; exact ⟨v, us, hV.2 _ _ hσ, ownsRow_same ho (fun k hk => hb k (by simp [SB.blk, hσ, tupBlk, hk]))⟩
 | rowe pre k ds ty => obtain ⟨b, cap, cur, hβ, hσ, hh, r⟩ := h2; exact ⟨b, cap, cur, hV.1 _ _ hβ, hV.2 _ _ hσ, by rw [hb b (by simp [SB.blk, hβ])]; exact hh, r⟩
 | rowp xs ty => obtain ⟨v, hσ, ho⟩ := h2; exact ⟨v, hV.2 _ _ hσ, ownsRow_same ho (fun k hk => hb k (by simp [SB.blk, hσ, hk]))⟩
 | rop xs =>
   obtain ⟨v, hσ, ho⟩ := h2
   refine ⟨v, hV.2 _ _ hσ, ?_⟩
   rcases ho with ho | ⟨b, o, c, rfl, hlt, hc, hh⟩
   ·exact .inl ho
   ·refine .inr ⟨b, o, c, rfl, Nat.lt_of_lt_of_le hlt hs, hc, fun j v hj => ?_⟩
    rw [← hh j v hj]
    have hpos : 0 < xs.length := by
     cases xs with
     | nil => simp [pairC] at hj
     | cons a r => simp
    obtain ⟨m, rfl⟩ : ∃ m, c = m + 1 := ⟨c - 1, by omega⟩
    exact World.cell?_of_block (w := w) (hb b (by simp [SB.blk, hσ, roBlk, Value.ownBlock]))
 | rol ds => trivial
 | rof d => trivial
 | rolz ds z => trivial
 | gone => trivial
theorem froB.le {l : Nat} {B : SB} (h : froB w0 M V l B) (hV : V.le V') : froB w0 M V' l B := by
 cases B with
 | rol ds => obtain ⟨v, us, hσ, r⟩ := h; exact ⟨v, us, hV.2 _ _ hσ, r⟩
 | rof d => obtain ⟨u, hσ, r⟩ := h; exact ⟨u, hV.2 _ _ hσ, r⟩
 | rolz ds z => obtain ⟨v, us, hσ, r⟩ := h; exact ⟨v, us, hV.2 _ _ hσ, r⟩
 | rowl ds ty => obtain ⟨v, us, hσ, r⟩ := h; exact ⟨v, us, hV.2 _ _ hσ, r⟩
 | _ => trivial
theorem SB.blk_le (hV : V.le V') {l : Nat} {B : SB} {n : Nat} (h : B.blk V l = some n) : B.blk V' l = some n := by
 cases B <;> simp only [SB.blk, Option.map_eq_some_iff, Option.bind_eq_some_iff] at h ⊢
 case gone => cases h
 case rowi => obtain ⟨v, hv, e⟩ := h; exact ⟨v, hV.2 _ _ hv, e⟩
 case rowx => obtain ⟨v, hv, e⟩ := h; exact ⟨v, hV.2 _ _ hv, e⟩
 case rov => obtain ⟨v, hv, e⟩ := h; exact ⟨v, hV.2 _ _ hv, e⟩
 case rowl => obtain ⟨v, hv, e⟩ := h; exact ⟨v, hV.2 _ _ hv, e⟩
 case rowp => obtain ⟨v, hv, e⟩ := h; exact ⟨v, hV.2 _ _ hv, e⟩
 case rop => obtain ⟨v, hv, e⟩ := h; exact ⟨v, hV.2 _ _ hv, e⟩
 case rol => cases h
 case rof => cases h
 case rolz => cases h
 all_goals (obtain ⟨p, hp, e⟩ := h; exact ⟨p, hV.1 _ _ hp, e⟩)
theorem okB.blk_eq {l : Nat} {B : SB} (h : okB V w l B) (hV : V.le V') : B.blk V' l = B.blk V l := by
 obtain ⟨cs, _, h2⟩ := h
 cases B with
 | own cells ty => obtain ⟨b, hb, _⟩ := h2; simp [SB.blk, hb, hV.1 _ _ hb]
 | ints k xs ty => obtain ⟨b, hb, _⟩ := h2; simp [SB.blk, hb, hV.1 _ _ hb]
 | vals vs ty => obtain ⟨b, hb, _⟩ := h2; simp [SB.blk, hb, hV.1 _ _ hb]
 | roc cells => obtain ⟨b, o, hb, _⟩ := h2; simp [SB.blk, hb, hV.1 _ _ hb]
 | roi k xs => obtain ⟨b, o, hb, _⟩ := h2; simp [SB.blk, hb, hV.1 _ _ hb]
 | rowi k xs ty => obtain ⟨v, hv, _⟩ := h2; simp [SB.blk, hv, hV.2 _ _ hv]
 | rowx sz n ty => obtain ⟨v, us, hv, _⟩ := h2; simp [SB.blk, hv, hV.2 _ _ hv]
 | row sz cells ty => obtain ⟨b, _, _, hb, _⟩ := h2; simp [SB.blk, hb, hV.1 _ _ hb]
 | rov k xs => obtain ⟨v, hv, _⟩ := h2; simp [SB.blk, hv, hV.2 _ _ hv]
 | rowl ds ty => obtain ⟨v, us, hv, _⟩ := h2; simp [SB.blk, hv, hV.2 _ _ hv]
 | rowe pre k ds ty => obtain ⟨b, _, _, hb, _⟩ := h2; simp [SB.blk, hb, hV.1 _ _ hb]
 | rowp xs ty => obtain ⟨v, hv, _⟩ := h2; simp [SB.blk, hv, hV.2 _ _ hv]
 | rop xs => obtain ⟨v, hv, _⟩ := h2; simp [SB.blk, hv, hV.2 _ _ hv]
 | rol ds => simp [SB.blk]
 | rof d => simp [SB.blk]
 | rolz ds z => simp [SB.blk]
 | gone => simp [SB.blk]
theorem TabOK.step (h : TabOK w0 M V T w) (hV : V.le V') {N T' : Tab}
  (hT : ∀ l B, T' l = some B → N l = some B ∨ (N l = none ∧ T l = some B))
  (hN : ∀ l B, N l = some B → okB V' w' l B)
  (hblk : ∀ l B n, N l = some B → B.blk V' l = some n → w.heap.size ≤ n ∨ (∃ l0 B0, T l0 = some B0 ∧ B0.owned = true ∧ B0.blk V l0 = some n ∧ N l0 ≠ none) ∨ B.owned = false ∧ ∀ l2 B2, N l2 = none → T l2 = some B2 → B2.owned = true → B2.blk V l2 ≠ some n)
  (hdist : ∀ l B l' B' n, l ≠ l' → N l = some B → N l' = some B' → B.owned = true → B.blk V' l = some n → B'.blk V' l' ≠ some n)
  (hsize : w.heap.size ≤ w'.heap.size)
  (hkeep : ∀ n, n < w.heap.size → (∀ l B0, T l = some B0 → B0.owned = true → N l ≠ none → B0.blk V l ≠ some n) → w'.heap[n]? = w.heap[n]?)
  (hos : w'.os = w.os) (htape : w'.tape = w.tape) (hout : w'.output = w.output)
  (hfro : ∀ l B, N l = some B → froB w0 M V' l B := by intro l B h; (repeat' split at h) <;> first | (cases h; done) | (cases h; trivial)) : TabOK w0 M V' T' w' where
 fro := fun l B hl => by
  rcases hT l B hl with hn | ⟨_, ho⟩
  ·exact hfro l B hn
  ·exact (h.fro l B ho).le hV
 ok := fun l B hl => by
  rcases hT l B hl with hn | ⟨hn, ho⟩
  ·exact hN l B hn
  ·refine (h.ok l B ho).keep hV hsize (fun n hb => hkeep n ((h.ok l B ho).lt hb) fun l1 B1 h1 h2 h3 h4 => ?_)
   by_cases e : l1 = l
   ·subst e; exact h3 hn
   ·exact h.dist l1 B1 l B n e h1 ho h2 h4 hb
 dist := fun l B l' B' n hne hl hl' hown hb => by
  rcases hT l B hl with hn | ⟨hn, ho⟩ <;> rcases hT l' B' hl' with hn' | ⟨hn', ho'⟩
  ·exact hdist l B l' B' n hne hn hn' hown hb
  ·rw [(h.ok l' B' ho').blk_eq hV]
   intro hb'
   rcases hblk l B n hn hb with hge | ⟨l0, B0, h0, h1, h2, h3⟩ | ⟨hf, _⟩
   ·have := (h.ok l' B' ho').lt hb'; omega
   ·exact h.dist l0 B0 l' B' n (fun e => h3 (e ▸ hn')) h0 ho' h1 h2 hb'
   ·rw [hf] at hown; cases hown
  ·rw [(h.ok l B ho).blk_eq hV] at hb
   intro hb'
   rcases hblk l' B' n hn' hb' with hge | ⟨l0, B0, h0, h1, h2, h3⟩ | ⟨_, hf⟩
   ·have := (h.ok l B ho).lt hb; omega
   ·exact h.dist l B l0 B0 n (fun e => h3 (e ▸ hn)) ho h0 hown hb h2
   ·exact hf l B hn ho hown hb
  ·rw [(h.ok l B ho).blk_eq hV] at hb
   rw [(h.ok l' B' ho').blk_eq hV]
   exact h.dist l B l' B' n hne ho ho' hown hb
 perm := fun l B n hl hown hb => by
  rcases hT l B hl with hn | ⟨hn, ho⟩
  ·rcases hblk l B n hn hb with hge | ⟨l0, B0, h0, h1, h2, _⟩ | ⟨hf, _⟩
   ·left; have := h.frame.size; omega
   ·exact h.perm l0 B0 n h0 h1 h2
   ·rw [hf] at hown; cases hown
  ·rw [(h.ok l B ho).blk_eq hV] at hb
   exact h.perm l B n ho hown hb
 frame := by
  refine ⟨hos.trans h.frame.os, htape.trans h.frame.tape, hout.trans h.frame.output, Nat.le_trans h.frame.size hsize, fun k hk hM => ?_⟩
  rw [← h.frame.block k hk hM]
  refine hkeep k (Nat.lt_of_lt_of_le hk h.frame.size) fun l B0 h1 h2 _ h4 => ?_
  rcases h.perm l B0 k h1 h2 h4 with hge | hm
  ·omega
  ·exact hM hm
theorem TabOK.alloc (h : TabOK w0 M V T w) (hf : V.fresh lab) {B : SB} {cs : List Value} {ty : TypeId} (hB : B = .own (match B with | .own c _ => c | _ => []) ty ∨ B = .ints (match B with | .ints k _ _ => k | _ => .i8) (match B with | .ints _ xs _ => xs | _ => []) ty ∨ B = .vals (match B with | .vals vs _ => vs | _ => []) ty) (hc : B.cells V = some cs) (v : SV) (l : List Prop) :
  TabOK w0 M (V.put lab (w.heap.size, 0)) (upd T lab { obl := l, val := v, new := [B] }) (w.alloc (.cells cs.toArray ty)) := by
 have hext := Val.put_ext hf lab (Nat.le_refl _) (by omega) (w.heap.size, 0)
 have hput : (V.put lab (w.heap.size, 0)).β lab = some (w.heap.size, 0) := by simp [Val.put]
 refine h.step (N := fun k => if k = lab then some B else none) hext.1 (fun k C hk => ?_) (fun k C hk => ?_) (fun k C n hk hb => ?_) (fun k C k' C' n hne hk hk' => ?_) (by simp) (fun n hn _ => heap_alloc_old w _ hn) rfl rfl rfl (fun k C hk => froB_plain ?_)
 ·simp only [upd, Eff.tab, newL, List.nil_append] at hk
  by_cases e : lab = k
  ·subst e; rw [look_cons_eq] at hk; left; simpa using hk
  ·rw [look_cons_ne e] at hk; right; simp only [look] at hk; exact ⟨if_neg (fun x => e x.symm), hk⟩
 ·by_cases e : k = lab
  ·subst e
   simp only [if_true, Option.some.injEq] at hk
   subst hk
   refine ⟨cs, SB.cells_mono hext.1 hc, ?_⟩
   rcases hB with hB | hB | hB <;> rw [hB] <;> exact ⟨w.heap.size, hput, heap_alloc_new w _⟩
  ·simp [e] at hk
 ·by_cases e : k = lab
  ·subst e
   simp only [if_true, Option.some.injEq] at hk
   subst hk
   left
   rcases hB with hB | hB | hB <;> (rw [hB] at hb; simp [SB.blk, hput] at hb; omega)
  ·simp [e] at hk
 ·by_cases e : k = lab
  ·by_cases e' : k' = lab
   ·omega
   ·simp [e'] at hk'
  ·simp [e] at hk
 ·split at hk
  ·cases hk; rcases hB with e | e | e <;> (rw [e]; rfl)
  ·cases hk
theorem TabOK.write (h : TabOK w0 M V T w) {l : Nat} {B0 B : SB} {b : Nat} {old cs : List Value} {ty : TypeId} (hl : T l = some B0) (hβ : V.β l = some (b, 0)) (hown : B0.owned = true) (h0 : B0.blk V l = some b)
  (hheap : w.heap[b]? = some (.cells old.toArray ty (0, 0))) (hc : B.cells V = some cs)
  (hB : B = .own (match B with | .own c _ => c | _ => []) ty ∨ B = .ints (match B with | .ints k _ _ => k | _ => .i8) (match B with | .ints _ xs _ => xs | _ => []) ty ∨ B = .vals (match B with | .vals vs _ => vs | _ => []) ty) (lab : Nat) (v : SV) (ob : List Prop) :
  TabOK w0 M V (upd T lab { obl := ob, val := v, wr := [(l, B)] }) (w.setRow b cs.toArray) := by
 have hBblk : B.blk V l = some b := by rcases hB with hB | hB | hB <;> (rw [hB]; simp [SB.blk, hβ])
 refine h.step (N := fun k => if k = l then some B else none) (Val.le_refl V) (fun k C hk => ?_) (fun k C hk => ?_) (fun k C n hk hb => ?_) (fun k C k' C' n hne hk hk' => ?_) (by simp) (fun n hn hx => ?_) rfl rfl rfl (fun k C hk => froB_plain ?_)
 ·simp only [upd, Eff.tab, newL, List.append_nil] at hk
  by_cases e : l = k
  ·subst e; rw [look_cons_eq] at hk; left; simpa using hk
  ·rw [look_cons_ne e] at hk; right; simp only [look] at hk; exact ⟨if_neg (fun x => e x.symm), hk⟩
 ·by_cases e : k = l
  ·subst e
   simp only [if_true, Option.some.injEq] at hk
   subst hk
   refine ⟨cs, hc, ?_⟩
   have := setRow_heap w b old.toArray cs.toArray ty (0, 0) hheap
   rcases hB with hB | hB | hB <;> rw [hB] <;> exact ⟨b, hβ, this⟩
  ·simp [e] at hk
 ·by_cases e : k = l
  ·subst e
   simp only [if_true, Option.some.injEq] at hk
   subst hk
   right; left
   rw [hBblk] at hb
   cases hb
   exact ⟨k, B0, hl, hown, h0, by simp⟩
  ·simp [e] at hk
 ·by_cases e : k = l
  ·by_cases e' : k' = l
   ·omega
   ·simp [e'] at hk'
  ·simp [e] at hk
 ·refine setRow_other w b n _ fun e => ?_
  subst e
  exact hx l B0 hl hown (by simp) h0
 ·split at hk
  ·cases hk; rcases hB with e | e | e <;> (rw [e]; rfl)
  ·cases hk
theorem TabOK.draws (h : TabOK w0 M V T w) (hh : w'.heap = w.heap) (hos : w'.os = w.os) (htape : w'.tape = w.tape) (hout : w'.output = w.output) : TabOK w0 M V T w' :=
 h.step (N := fun _ => none) (Val.le_refl V) (fun l B hl => .inr ⟨rfl, hl⟩) (fun _ _ hk => by cases hk) (fun _ _ _ hk => by cases hk) (fun _ _ _ _ _ _ hk => by cases hk) (by rw [hh]; exact Nat.le_refl _) (fun n _ _ => by rw [hh]) hos htape hout
theorem RdOK.keep {w w' : World} {k : IntKind} {x : Value} {ys : List Int} (h : RdOK w k x ys) (hs : w.heap.size ≤ w'.heap.size) (hb : ∀ n, roBlk x = some n → w'.heap[n]? = w.heap[n]?) : RdOK w' k x ys := by
 rcases h with ho | ⟨b, o, c, rfl, hlt, hc, hh⟩
 ·exact .inl ho
 ·refine .inr ⟨b, o, c, rfl, Nat.lt_of_lt_of_le hlt hs, hc, fun j v hj => ?_⟩
  rw [← hh j v hj]
  have hpos : j < ys.length := by simpa using (List.getElem?_eq_some_iff.1 hj).1
  obtain ⟨m, rfl⟩ : ∃ m, c = m + 1 := ⟨c - 1, by omega⟩
  exact World.cell?_of_block (w := w) (hb b (by simp [roBlk, Value.ownBlock]))
theorem FrozenRd.keep {w0 w : World} {M M' : Nat → Prop} {u : Value} {d : List Int} (h : FrozenRd w0 M u d) (hf : FrameOK w0 M w) (hM : ∀ n, M' n → w0.heap.size ≤ n ∨ M n) : FrozenRd w M' u d := by
 refine ⟨h.1.keep hf.size fun n hn => hf.block n (h.2 n hn).1 (h.2 n hn).2, fun n hn => ⟨Nat.lt_of_lt_of_le (h.2 n hn).1 hf.size, fun hm => ?_⟩⟩
 rcases hM n hm with q | q
 ·have := (h.2 n hn).1; omega
 ·exact (h.2 n hn).2 q
theorem FrozenL.keep {w0 w : World} {M M' : Nat → Prop} {v : Value} {us : List Value} (h : FrozenL w0 M v us) (hf : FrameOK w0 M w) (hM : ∀ n, M' n → w0.heap.size ≤ n ∨ M n) : FrozenL w M' v us := by
 refine ⟨?_, fun n hn => ⟨Nat.lt_of_lt_of_le (h.2 n hn).1 hf.size, fun hm => ?_⟩⟩
 ·rcases h.1 with ho | ⟨b, o, c, rfl, hlt, hc, hh⟩
  ·exact .inl ho
  ·refine .inr ⟨b, o, c, rfl, Nat.lt_of_lt_of_le hlt hf.size, hc, fun j u hj => ?_⟩
   rw [← hh j u hj]
   have hpos : j < us.length := (List.getElem?_eq_some_iff.1 hj).1
   obtain ⟨m, rfl⟩ : ∃ m, c = m + 1 := ⟨c - 1, by omega⟩
   have hb := h.2 b (by simp [roBlk, Value.ownBlock])
   exact World.cell?_of_block (w := w0) (hf.block b hb.1 hb.2)
 ·rcases hM n hm with q | q
  ·have := (h.2 n hn).1; omega
  ·exact (h.2 n hn).2 q
theorem froB.keep {w0 w : World} {M M' : Nat → Prop} {V : Val} {l : Nat} {B : SB} (h : froB w0 M V l B) (hf : FrameOK w0 M w) (hM : ∀ n, M' n → w0.heap.size ≤ n ∨ M n) : froB w M' V l B := by
 cases B with
 | rof d => obtain ⟨u, h1, h2⟩ := h; exact ⟨u, h1, h2.keep hf hM⟩
 | rol ds => obtain ⟨v, us, h1, h2, h3, h4⟩ := h; exact ⟨v, us, h1, h2.keep hf hM, h3, fun i u d hu hd => (h4 i u d hu hd).keep hf hM⟩
 | rowl ds ty => obtain ⟨v, us, h1, h3, h4⟩ := h; exact ⟨v, us, h1, h3, fun i u d hu hd => (h4 i u d hu hd).keep hf hM⟩
 | rolz ds z => obtain ⟨v, us, h1, h2, h3, h4, h5⟩ := h; exact ⟨v, us, h1, h2.keep hf hM, h3, fun i u d hu hd => (h4 i u d hu hd).keep hf hM, h5⟩
 | _ => trivial
theorem RdOK.ros {k : IntKind} {x : Value} {ys : List Int} (h : RdOK w k x ys) : rosV ys.length x = some x := by
 rcases h with ⟨⟨a, rfl⟩, rfl⟩ | ⟨b, o, c, rfl, _, hc, _⟩
 ·cases a <;> simp [rosV]
 ·unfold rosV; exact if_pos ⟨rfl, hc, .inr rfl⟩
theorem TabOK.swap {l0 : Nat} {B C : SB} (hT : TabOK w0 M V T w) (hl : T l0 = some B) (hok : okB V w l0 B → okB V w l0 C) (hblk : C.blk V l0 = B.blk V l0) (hown : C.owned = B.owned) (hpl : C.plain = true) : TabOK w0 M V (fun l => if l = l0 then some C else T l) w := by
 have src : ∀ l D, (if l = l0 then some C else T l) = some D → ∃ E, T l = some E ∧ D.blk V l = E.blk V l ∧ D.owned = E.owned := by
  intro l D h
  by_cases e : l = l0
  ·subst e; rw [if_pos rfl] at h; cases h; exact ⟨B, hl, hblk, hown⟩
  ·rw [if_neg e] at h; exact ⟨D, h, rfl, rfl⟩
 refine ⟨fun l D h => ?_, fun l D l' D' n hne h h' ho hb => ?_, fun l D n h ho hb => ?_, hT.frame, fun l D h => ?_⟩
 ·by_cases e : l = l0
  ·subst e; simp only [if_true, Option.some.injEq] at h; subst h; exact hok (hT.ok l B hl)
  ·simp only [if_neg e] at h; exact hT.ok l D h
 ·obtain ⟨E, h1, h2, h3⟩ := src l D h
  obtain ⟨E', h1', h2', _⟩ := src l' D' h'
  rw [h2']
  exact hT.dist l E l' E' n hne h1 h1' (h3 ▸ ho) (h2 ▸ hb)
 ·obtain ⟨E, h1, h2, h3⟩ := src l D h
  exact hT.perm l E n h1 (h3 ▸ ho) (h2 ▸ hb)
 ·by_cases e : l = l0
  ·subst e; simp only [if_true, Option.some.injEq] at h; subst h; exact froB_plain hpl
  ·simp only [if_neg e] at h; exact hT.fro l D h
end Tables
end Go.Proofs.YtjomfjihopegmaaGreatDoor.Sx
end
section
open Go
namespace Go.Proofs.YtjomfjihopegmaaGreatDoor.Sx
def bAnd (k : IntKind) (x y : Int) : Int := k.wrap ((BitVec.ofInt k.bits x &&& BitVec.ofInt k.bits y).toNat : Int)
def bOr (k : IntKind) (x y : Int) : Int := k.wrap ((BitVec.ofInt k.bits x ||| BitVec.ofInt k.bits y).toNat : Int)
def bXor (k : IntKind) (x y : Int) : Int := k.wrap ((BitVec.ofInt k.bits x ^^^ BitVec.ofInt k.bits y).toNat : Int)
def bNot (k : IntKind) (x y : Int) : Int := k.wrap ((BitVec.ofInt k.bits x &&& ~~~(BitVec.ofInt k.bits y)).toNat : Int)
def shlI (k : IntKind) (x y : Int) : Int := k.wrap (x * 2 ^ (min y.toNat k.bits))
def shrI (k : IntKind) (x y : Int) : Int := x.fdiv (2 ^ (min y.toNat k.bits))
def lit (v : SV) : Option Eff := some { val := v }
def withO (v : SV) (l : List Prop) : Eff := { obl := l, val := v }
def eInt (h : Option Bool) (op : BinOp) (k : IntKind) (a : Int) (k2 : IntKind) (b : Int) (sa sb : Bool) : Option Eff :=
 match op with
 | .shl => (need sb (0 ≤ b)).map (withO (.int (sa && sb) k (shlI k a b)))
 | .shr => (need sb (0 ≤ b)).map (withO (.int (sa && sb) k (shrI k a b)))
 | _ => match decide (k = k2) with
   | false => none
   | true => match op with
     | .add => lit (.int (sa && sb) k (k.wrap (a + b)))
     | .sub => lit (.int (sa && sb) k (k.wrap (a - b)))
     | .mul => lit (.int (sa && sb) k (k.wrap (a * b)))
     | .quo => (need sb (b ≠ 0)).map (withO (.int (sa && sb) k (k.wrap (a.tdiv b))))
     | .rem => (need sb (b ≠ 0)).map (withO (.int (sa && sb) k (a.tmod b)))
     | .and => lit (.int (sa && sb) k (bAnd k a b))
     | .or => lit (.int (sa && sb) k (bOr k a b))
     | .xor => lit (.int (sa && sb) k (bXor k a b))
     | .andNot => lit (.int (sa && sb) k (bNot k a b))
     | .eql => some (mkB h (sa && sb) (a == b))
     | .neq => some (mkB h (sa && sb) (a != b))
     | .lss => some (mkB h (sa && sb) (decide (a < b)))
     | .leq => some (mkB h (sa && sb) (decide (a ≤ b)))
     | .gtr => some (mkB h (sa && sb) (decide (a > b)))
     | .geq => some (mkB h (sa && sb) (decide (a ≥ b)))
     | _ => none
theorem eInt_ok {P : Program} (V : Val) (w : World) {h : Option Bool} {op : BinOp} {k : IntKind} {a : Int} {k2 : IntKind} {b : Int} {sa sb : Bool} {e : Eff} (t : TypeId)
  (he : eInt h op k a k2 b sa sb = some e) (ho : ∀ q ∈ e.obl, q) :
  ∃ x, (binOp op t (.int k a) (.int k2 b)).run P w = .ok x w ∧ den V e.val = some x ∧ e.new = [] ∧ e.wr = [] := by
 have hk : op ≠ .shl → op ≠ .shr → k = k2 := by
  intro h1 h2
  cases op <;> simp only [eInt] at he <;> first | (split at he <;> first | (cases he; done) | (rename_i hd; exact of_decide_eq_true hd)) | exact absurd rfl h1 | exact absurd rfl h2
 cases op
 case shl =>
  simp only [eInt, Option.map_eq_some_iff] at he
  obtain ⟨l, hl, rfl⟩ := he
  have hb := need_ok hl ho
  exact ⟨_, by simp only [binOp, Op.shift]; rw [if_neg (by omega)]; rfl, rfl, rfl, rfl⟩
 case shr =>
  simp only [eInt, Option.map_eq_some_iff] at he
  obtain ⟨l, hl, rfl⟩ := he
  have hb := need_ok hl ho
  exact ⟨_, by simp only [binOp, Op.shift]; rw [if_neg (by omega)]; rfl, rfl, rfl, rfl⟩
 all_goals
  have hk' := hk (by simp) (by simp)
  subst hk'
  simp only [eInt, decide_true] at he
 case quo =>
  simp only [Option.map_eq_some_iff] at he
  obtain ⟨l, hl, rfl⟩ := he
  have hb := need_ok hl ho
  exact ⟨_, by simp only [binOp]; rw [if_neg (by simp)]; simp only [Op.intDiv]; rw [if_neg hb]; rfl, rfl, rfl, rfl⟩
 case rem =>
  simp only [Option.map_eq_some_iff] at he
  obtain ⟨l, hl, rfl⟩ := he
  have hb := need_ok hl ho
  exact ⟨_, by simp only [binOp]; rw [if_neg (by simp)]; simp only [Op.intDiv]; rw [if_neg hb]; rfl, rfl, rfl, rfl⟩
 all_goals first
  | (simp only [lit, Option.some.injEq] at he; subst he; exact ⟨_, by simp only [binOp]; rw [if_neg (by simp)]; rfl, rfl, rfl, rfl⟩)
  | (simp only [Option.some.injEq] at he; subst he; obtain ⟨h1, h2, h3⟩ := mkB_ok V ho; exact ⟨_, by simp only [binOp]; rw [if_neg (by simp)]; rfl, h1, h2, h3⟩)
  | (cases he; done)
def nilP : SV → Option Bool
 | .raw (.pointer none) => some true
 | .ptr .. => some false
 | _ => none
def nilS : SV → Option Bool
 | .raw (.slice none _ _) => some true
 | .slc .. => some false
 | .slcR .. => some false
 | _ => none
def nilI : SV → Option Bool
 | .raw .nilIface => some true
 | .ifc .. => some false
 | _ => none
def eqlB (op : BinOp) (b : Bool) : Option Eff := match op with
 | .eql => lit (.bool true b)
 | .neq => lit (.bool true (!b))
 | _ => none
def eEq (h : Option Bool) (op : BinOp) (d : TypeDesc) (cc : Bool) (x y : SV) : Option Eff :=
 match d with
 | .pointer _ => match nilP x, nilP y with
   | some a, some b => match a || b with
     | true => eqlB op (a && b)
     | false => none
   | _, _ => none
 | .slice _ => match nilS x, nilS y with
   | some a, some b => match a || b with
     | true => eqlB op (a && b)
     | false => none
   | _, _ => none
 | .interface _ => match nilI x, nilI y with
   | some true, some true => match cc with
     | true => eqlB op true
     | false => none
   | some true, some false => eqlB op false
   | some false, some true => eqlB op false
   | _, _ => none
 | .bool => match x, y with
   | .bool sa a, .bool sb b => match op with
     | .eql => some (mkB h (sa && sb) (a == b))
     | .neq => some (mkB h (sa && sb) (!(a == b)))
     | _ => none
   | _, _ => none
 | _ => none
def eBin (Γ : Env) (g : Nat → Option SV) (h : Option Bool) (op : BinOp) (t : TypeId) (x y : Operand) : Option Eff :=
 match ev Γ g x, ev Γ g y with
 | some (.int sa k a), some (.int sb k2 b) => eInt h op k a k2 b sa sb
 | some u, some v => match Γ.ty t with
   | some ti => eEq h op ti.desc ((x matches .const _) || (y matches .const _)) u v
   | none => none
 | _, _ => none
theorem run_eqGuard_other {P : Program} (w : World) (op : BinOp) (t : TypeId) (x y : Operand) (a b : Value) (h1 : ¬ (a = .nilIface ∧ b = .nilIface)) (h2 : ∀ cs, a ≠ .agg cs) :
  (eqGuard op t x y a b).run P w = .ok () w := by
 unfold eqGuard
 cases op <;> try rfl
 all_goals
  cases a <;> cases b <;> first | rfl | exact absurd rfl (h2 _) | exact absurd ⟨rfl, rfl⟩ h1
theorem run_eqGuard_nil {P : Program} (w : World) (op : BinOp) (t : TypeId) (x y : Operand) (h : ((x matches .const _) || (y matches .const _)) = true) :
  (eqGuard op t x y .nilIface .nilIface).run P w = .ok () w := by
 unfold eqGuard
 cases op <;> try rfl
 all_goals (cases x <;> cases y <;> first | rfl | (simp at h; done))
theorem run_equal_ptrIn (n0 : Nat) {P : Program} (w : World) {t E : TypeId} (hu : P.underlying t = some (.pointer E)) (a b : Option Addr) (h : a = none ∨ b = none) :
  (Op.equalIn (n0 + 1) t (.pointer a) (.pointer b)).run P w = .ok (a.isNone && b.isNone) w := by
 simp only [Op.equalIn, Sem.run_bind, run_underlying hu w, Result.andThen_ok]
 rcases h with rfl | rfl
 ·simp
 ·cases a <;> simp
theorem run_equal_ptr {P : Program} (w : World) {t E : TypeId} (hu : P.underlying t = some (.pointer E)) (a b : Option Addr) (h : a = none ∨ b = none) :
  (Op.equal t (.pointer a) (.pointer b)).run P w = .ok (a.isNone && b.isNone) w := run_equal_ptrIn 9999 w hu a b h
theorem run_equal_sliceIn (n0 : Nat) {P : Program} (w : World) {t E : TypeId} (hu : P.underlying t = some (.slice E)) (a b : Option Addr) (n c m d : Nat) (h : a = none ∨ b = none) :
  (Op.equalIn (n0 + 1) t (.slice a n c) (.slice b m d)).run P w = .ok (a.isNone && b.isNone) w := by
 simp only [Op.equalIn, Sem.run_bind, run_underlying hu w, Result.andThen_ok]
 rcases h with rfl | rfl
 ·simp
 ·cases a <;> simp
theorem run_equal_slice {P : Program} (w : World) {t E : TypeId} (hu : P.underlying t = some (.slice E)) (a b : Option Addr) (n c m d : Nat) (h : a = none ∨ b = none) :
  (Op.equal t (.slice a n c) (.slice b m d)).run P w = .ok (a.isNone && b.isNone) w := run_equal_sliceIn 9999 w hu a b n c m d h
theorem run_equal_ifaceIn (n0 : Nat) {P : Program} (w : World) {t : TypeId} {ms : Array (String × TypeId)} (hu : P.underlying t = some (.interface ms)) (a b : Value) (h : (a = .nilIface ∧ (b = .nilIface ∨ ∃ u x, b = .iface u x)) ∨ (∃ u x, a = .iface u x) ∧ b = .nilIface) :
  (Op.equalIn (n0 + 1) t a b).run P w = .ok ((a matches .nilIface) && (b matches .nilIface)) w := by
 simp only [Op.equalIn, Sem.run_bind, run_underlying hu w, Result.andThen_ok]
 rcases h with ⟨rfl, rfl | ⟨u, x, rfl⟩⟩ | ⟨⟨u, x, rfl⟩, rfl⟩ <;> simp
theorem run_equal_iface {P : Program} (w : World) {t : TypeId} {ms : Array (String × TypeId)} (hu : P.underlying t = some (.interface ms)) (a b : Value) (h : (a = .nilIface ∧ (b = .nilIface ∨ ∃ u x, b = .iface u x)) ∨ (∃ u x, a = .iface u x) ∧ b = .nilIface) :
  (Op.equal t a b).run P w = .ok ((a matches .nilIface) && (b matches .nilIface)) w := run_equal_ifaceIn 9999 w hu a b h
theorem run_equal_boolIn (n0 : Nat) {P : Program} (w : World) {t : TypeId} (hu : P.underlying t = some .bool) (a b : Bool) :
  (Op.equalIn (n0 + 1) t (.bool a) (.bool b)).run P w = .ok (a == b) w := by
 simp only [Op.equalIn, Sem.run_bind, run_underlying hu w, Result.andThen_ok]
 rfl
theorem run_equal_bool {P : Program} (w : World) {t : TypeId} (hu : P.underlying t = some .bool) (a b : Bool) :
  (Op.equal t (.bool a) (.bool b)).run P w = .ok (a == b) w := run_equal_boolIn 9999 w hu a b
theorem nilP_ok {V : Val} {x : SV} {v : Value} {b : Bool} (h : nilP x = some b) (hv : den V x = some v) : ∃ a, v = .pointer a ∧ a.isNone = b := by
 unfold nilP at h
 split at h
 ·cases h; simp only [den, Option.some.injEq] at hv; subst hv; exact ⟨none, rfl, rfl⟩
 ·cases h; simp only [den, Option.map_eq_some_iff] at hv; obtain ⟨p, _, rfl⟩ := hv; exact ⟨_, rfl, rfl⟩
 ·cases h
theorem nilS_ok {V : Val} {x : SV} {v : Value} {b : Bool} (h : nilS x = some b) (hv : den V x = some v) : ∃ a n c, v = .slice a n c ∧ a.isNone = b := by
 unfold nilS at h
 split at h
 ·cases h; simp only [den, Option.some.injEq] at hv; subst hv; exact ⟨none, _, _, rfl, rfl⟩
 ·cases h; simp only [den, Option.map_eq_some_iff] at hv; obtain ⟨p, _, rfl⟩ := hv; exact ⟨_, _, _, rfl, rfl⟩
 ·cases h
  simp only [den, Option.map_eq_some_iff, Option.bind_eq_some_iff] at hv
  obtain ⟨p, _, c, _, rfl⟩ := hv
  exact ⟨_, _, _, rfl, rfl⟩
 ·cases h
theorem nilI_ok {V : Val} {x : SV} {v : Value} {b : Bool} (h : nilI x = some b) (hv : den V x = some v) : (b = true ∧ v = .nilIface) ∨ (b = false ∧ ∃ u y, v = .iface u y) := by
 unfold nilI at h
 split at h
 ·cases h; simp only [den, Option.some.injEq] at hv; subst hv; exact .inl ⟨rfl, rfl⟩
 ·cases h; simp only [den, Option.map_eq_some_iff] at hv; obtain ⟨p, _, rfl⟩ := hv; exact .inr ⟨rfl, _, _, rfl⟩
 ·cases h
theorem eqlB_ok {P : Program} (V : Val) {w : World} {op : BinOp} {b : Bool} {e : Eff} (h : eqlB op b = some e) {t : TypeId} {x y : Value}
  (hr : (Op.equal t x y).run P w = .ok b w) (hd : binOp op t x y = (match op with | .eql => (do pure (.bool (← Op.equal t x y))) | _ => (do pure (.bool (!(← Op.equal t x y)))))) :
  ∃ z, (binOp op t x y).run P w = .ok z w ∧ den V e.val = some z ∧ e.new = [] ∧ e.wr = [] := by
 rw [hd]
 cases op <;> simp only [eqlB, lit] at h <;> first | (cases h; done) | skip
 all_goals
  cases h
  exact ⟨_, by simp only [Sem.run_bind, hr, Result.andThen_ok, Sem.run_pure], rfl, rfl, rfl⟩
theorem eEq_ok {P : Program} (V : Val) (w : World) {h : Option Bool} {op : BinOp} {d : TypeDesc} {X Y : Operand} {x y : SV} {t : TypeId} {e : Eff} {u v : Value}
  (he : eEq h op d ((X matches .const _) || (Y matches .const _)) x y = some e) (ho : ∀ q ∈ e.obl, q) (hu : P.underlying t = some d) (hx : den V x = some u) (hy : den V y = some v) :
  ∃ z, ((do eqGuard op t X Y u v; binOp op t u v) : Sem Value).run P w = .ok z w ∧ den V e.val = some z ∧ e.new = [] ∧ e.wr = [] := by
 unfold eEq at he
 split at he
 case h_1 E =>
  split at he
  ·rename_i a b ha hb
   split at he
   ·rename_i hab
    obtain ⟨p, rfl, rfl⟩ := nilP_ok ha hx
    obtain ⟨q, rfl, rfl⟩ := nilP_ok hb hy
    have hr := run_equal_ptr (P := P) w hu p q (by cases p <;> cases q <;> simp at hab ⊢)
    obtain ⟨z, h1, h2⟩ := eqlB_ok V he hr (by cases op <;> first | rfl | (cases he; done))
    refine ⟨z, ?_, h2⟩
    rw [Sem.run_bind, run_eqGuard_other w op t X Y _ _ (by simp) (by simp), Result.andThen_ok]
    exact h1
   ·cases he
  ·cases he
 case h_2 E =>
  split at he
  ·rename_i a b ha hb
   split at he
   ·rename_i hab
    obtain ⟨p, n, c, rfl, rfl⟩ := nilS_ok ha hx
    obtain ⟨q, m, k, rfl, rfl⟩ := nilS_ok hb hy
    have hr := run_equal_slice (P := P) w hu p q n c m k (by cases p <;> cases q <;> simp at hab ⊢)
    obtain ⟨z, h1, h2⟩ := eqlB_ok V he hr (by cases op <;> first | rfl | (cases he; done))
    refine ⟨z, ?_, h2⟩
    rw [Sem.run_bind, run_eqGuard_other w op t X Y _ _ (by simp) (by simp), Result.andThen_ok]
    exact h1
   ·cases he
  ·cases he
 case h_3 ms =>
  split at he
  ·rename_i ha hb
   split at he
   ·rename_i hcc
    obtain ⟨_, rfl⟩ | ⟨hf, _⟩ := nilI_ok ha hx
    obtain ⟨_, rfl⟩ | ⟨hf, _⟩ := nilI_ok hb hy
    ·have hr := run_equal_iface (P := P) w hu .nilIface .nilIface (.inl ⟨rfl, .inl rfl⟩)
     obtain ⟨z, h1, h2⟩ := eqlB_ok V he hr (by cases op <;> first | rfl | (cases he; done))
     refine ⟨z, ?_, h2⟩
     rw [Sem.run_bind, run_eqGuard_nil w op t X Y hcc, Result.andThen_ok]
     exact h1
    ·cases hf
    ·cases hf
   ·cases he
  ·rename_i ha hb
   obtain ⟨_, rfl⟩ | ⟨hf, _⟩ := nilI_ok ha hx
   obtain ⟨hf, _⟩ | ⟨_, U, z, rfl⟩ := nilI_ok hb hy
   ·cases hf
   ·have hr := run_equal_iface (P := P) w hu .nilIface (.iface U z) (.inl ⟨rfl, .inr ⟨_, _, rfl⟩⟩)
    obtain ⟨z, h1, h2⟩ := eqlB_ok V he hr (by cases op <;> first | rfl | (cases he; done))
    refine ⟨z, ?_, h2⟩
    rw [Sem.run_bind, run_eqGuard_other w op t X Y _ _ (by simp) (by simp), Result.andThen_ok]
    exact h1
   ·cases hf
  ·rename_i ha hb
   obtain ⟨hf, _⟩ | ⟨_, U, z, rfl⟩ := nilI_ok ha hx
   ·cases hf
   obtain ⟨_, rfl⟩ | ⟨hf, _⟩ := nilI_ok hb hy
   ·have hr := run_equal_iface (P := P) w hu (.iface U z) .nilIface (.inr ⟨⟨_, _, rfl⟩, rfl⟩)
    obtain ⟨z, h1, h2⟩ := eqlB_ok V he hr (by cases op <;> first | rfl | (cases he; done))
    refine ⟨z, ?_, h2⟩
    rw [Sem.run_bind, run_eqGuard_other w op t X Y _ _ (by simp) (by simp), Result.andThen_ok]
    exact h1
   ·cases hf
  ·cases he
 case h_4 =>
  split at he
  ·rename_i sa a sb b
   simp only [den, Option.some.injEq] at hx hy
   subst hx; subst hy
   have hr := run_equal_bool (P := P) w hu a b
   have hg := run_eqGuard_other (P := P) w op t X Y (.bool a) (.bool b) (by simp) (by simp)
   cases op <;> simp only at he <;> first | (cases he; done) | skip
   all_goals
    cases he
    obtain ⟨h1, h2, h3⟩ := mkB_ok V ho
    exact ⟨_, by rw [Sem.run_bind, hg, Result.andThen_ok]; simp only [binOp, Sem.run_bind, hr, Result.andThen_ok, Sem.run_pure], h1, h2, h3⟩
  ·cases he
 case h_5 => cases he
theorem eBin_ok {P : Program} {Γ : Env} {V : Val} {w w0 : World} {M : Nat → Prop} {T : Tab} {g : Nat → Option SV} {a : Act} (hty : TyOK P Γ) (ht : TmpOK V g a) (hg : GlobOK Γ V) (hT : TabOK w0 M V T w)
  {h : Option Bool} {op : BinOp} {t t2 : TypeId} {x y : Operand} {o : Oper} (hop : o.op = .binOp op t x y t2) {e : Eff} (he : eBin Γ g h op t x y = some e) (ho : ∀ q ∈ e.obl, q) (lab : Nat) :
  Sim P w0 M V T lab e o a w := by
 unfold eBin at he
 split at he
 ·rename_i sa k A sb k2 B hx hy
  have ex := ev_ok ht hg hx
  have ey := ev_ok ht hg hy
  simp only [den, Option.some.injEq] at ex ey
  obtain ⟨z, h1, h2, h3, h4⟩ := eInt_ok (P := P) V w t he ho
  refine sim_pure (x := z) ?_ h2 h3 h4 hT
  unfold execOp
  simp only [hop, ← ex, ← ey, Sem.run_bind, run_eqGuard_other w op t x y (.int k A) (.int k2 B) (by simp) (by simp), Result.andThen_ok, h1, Sem.run_pure]
 ·rename_i u v _ hx hy
  split at he
  ·rename_i ti hti
   obtain ⟨z, h1, h2, h3, h4⟩ := eEq_ok (P := P) V w he ho (hty t ti hti).1 (ev_ok ht hg hx) (ev_ok ht hg hy)
   refine sim_pure (x := z) ?_ h2 h3 h4 hT
   unfold execOp
   simp only [hop]
   rw [Sem.run_bind, h1]
   rfl
  ·cases he
 ·cases he
def eUn (Γ : Env) (g : Nat → Option SV) (op : UnOp) (x : Operand) : Option Eff :=
 match op, ev Γ g x with
 | .neg, some (.int s k n) => lit (.int s k (k.wrap (0 - n)))
 | .xor, some (.int s k n) => lit (.int s k (bXor k (if k.signed then -1 else k.max) n))
 | .not, some (.bool s b) => lit (.bool s (!b))
 | _, _ => none
theorem eUn_ok {P : Program} {Γ : Env} {V : Val} {w w0 : World} {M : Nat → Prop} {T : Tab} {g : Nat → Option SV} {a : Act} (ht : TmpOK V g a) (hg : GlobOK Γ V) (hT : TabOK w0 M V T w)
  {op : UnOp} {t : TypeId} {x : Operand} {o : Oper} (hop : o.op = .unOp op t x) {e : Eff} (he : eUn Γ g op x = some e) (lab : Nat) : Sim P w0 M V T lab e o a w := by
 unfold eUn at he
 split at he <;> first | (cases he; done) | skip
 all_goals
  rename_i hx
  have ex := ev_ok ht hg hx
  simp only [den, Option.some.injEq] at ex
  simp only [lit, Option.some.injEq] at he
  subst he
  refine sim_pure (by unfold execOp; simp only [hop, ← ex]; rfl) rfl rfl rfl hT
def eConv (Γ : Env) (g : Nat → Option SV) (src dst : TypeId) (x : Operand) : Option Eff :=
 match ev Γ g x, Γ.ty src, Γ.ty dst with
 | some (.int s _ n), some _, some td => match td.desc with
   | .int k => lit (.int s k (k.wrap n))
   | _ => none
 | _, _, _ => none
theorem eConv_ok {P : Program} {Γ : Env} {V : Val} {w w0 : World} {M : Nat → Prop} {T : Tab} {g : Nat → Option SV} {a : Act} (hty : TyOK P Γ) (ht : TmpOK V g a) (hg : GlobOK Γ V) (hT : TabOK w0 M V T w)
  {src dst : TypeId} {x : Operand} {o : Oper} (hop : o.op = .convert src dst x) {e : Eff} (he : eConv Γ g src dst x = some e) (lab : Nat) : Sim P w0 M V T lab e o a w := by
 unfold eConv at he
 split at he
 ·rename_i s k0 n ts td hx h1 h2
  split at he
  ·rename_i k hk
   have ex := ev_ok ht hg hx
   simp only [den, Option.some.injEq] at ex
   simp only [lit, Option.some.injEq] at he
   subst he
   refine sim_pure (x := .int k (k.wrap n)) ?_ rfl rfl rfl hT
   unfold execOp
   simp only [hop, ← ex, convert, Sem.run_bind, run_underlying (hty src ts h1).1 w, run_underlying (hty dst td h2).1 w, Result.andThen_ok, hk]
   rfl
  ·cases he
 ·cases he
end Go.Proofs.YtjomfjihopegmaaGreatDoor.Sx
end
section
open Go
namespace Go.Proofs.YtjomfjihopegmaaGreatDoor.Sx
def aggD : TypeDesc → Bool
 | .struct _ | .array _ _ => true
 | _ => false
theorem add_addr (b o j : Nat) : (⟨b, o, none⟩ : Addr).add j = ⟨b, o + j, none⟩ := by
 unfold Addr.add; split <;> simp_all
section Run
variable {P : Program} {w : World} {t : TypeId} {d : TypeDesc} {i : TypeInfo}
theorem run_isAgg (hu : P.underlying t = some d) : (isAgg t).run P w = .ok (aggD d) w := by
 unfold isAgg
 rw [Sem.run_bind, run_underlying hu w]
 cases d <;> rfl
theorem run_sizeOf (hi : P.info? t = some i) : (sizeOf t).run P w = .ok i.size w := by
 simp [sizeOf, typeInfo, hi]
theorem run_zeroValue {z : Value} (hi : P.info? t = some i) (hz : i.zero = some z) : (zeroValue t).run P w = .ok z w := by
 simp [zeroValue, typeInfo, hi, hz]
theorem run_loadVar_cells (hu : P.underlying t = some d) (hi : P.info? t = some i) (b o : Nat) (xs : List Value) (hx : xs.length = i.size)
  (hc : ∀ (j : Nat) (v : Value), xs[j]? = some v → w.cell? ⟨b, o + j, none⟩ = some v) :
  (aggD d = true → (loadVar t ⟨b, o, none⟩).run P w = .ok (.agg xs.toArray) w) ∧
  (aggD d = false → ∀ x, xs = [x] → (loadVar t ⟨b, o, none⟩).run P w = .ok x w) := by
 refine ⟨fun h => ?_, fun h x hx1 => ?_⟩
 ·have hl := run_loadCells_list (P := P) w ⟨b, o, none⟩ xs (fun j v hj => by rw [add_addr]; exact hc j v hj)
  rw [hx] at hl
  simp [loadVar, run_isAgg hu, h, run_sizeOf hi, hl]
 ·subst hx1
  have := hc 0 x rfl
  simp only [Nat.add_zero] at this
  simp [loadVar, run_isAgg hu, h, this]
theorem oneCell_iff (v : Value) (h : v.oneCell' = true) : v.cells = #[v] := by cases v <;> first | rfl | (cases h; done)
end Run
def cellsOf : SV → List SV
 | .agg vs => vs
 | v => [v]
def one1 : SV → Bool
 | .int .. | .bool .. | .ptr .. | .slc .. | .fn .. | .ifc .. | .bptr .. | .bslc .. | .slcR .. | .ros .. | .rse .. | .rsl .. => true
 | .raw v => v.oneCell'
 | _ => false
theorem one1_ok {V : Val} : ∀ {v : SV} {x : Value}, one1 v = true → den V v = some x → x.oneCell' = true
 | .int .., x, _, h => by simp only [den, Option.some.injEq] at h; subst h; rfl
 | .bool .., x, _, h => by simp only [den, Option.some.injEq] at h; subst h; rfl
 | .ptr .., x, _, h => by simp only [den, Option.map_eq_some_iff] at h; obtain ⟨p, _, rfl⟩ := h; rfl
 | .slc .., x, _, h => by simp only [den, Option.map_eq_some_iff] at h; obtain ⟨p, _, rfl⟩ := h; rfl
 | .fn .., x, _, h => by simp only [den, Option.map_eq_some_iff, Option.bind_eq_some_iff] at h; obtain ⟨p, _, q, _, rfl⟩ := h; rfl
 | .ifc .., x, _, h => by simp only [den, Option.map_eq_some_iff] at h; obtain ⟨p, _, rfl⟩ := h; rfl
 | .bptr .., x, _, h => by
   simp only [den] at h
   split at h
   ·cases h; rfl
   ·cases h
 | .bslc .., x, _, h => by
   simp only [den] at h
   split at h
   ·cases h; rfl
   ·cases h
 | .raw v, x, h1, h => by simp only [den, Option.some.injEq] at h; subst h; exact h1
 | .agg .., _, h, _ => by cases h
 | .ai .., _, h, _ => by cases h
 | .tup .., _, h, _ => by cases h
 | .buf .., _, h, _ => by cases h
 | .slcR .., x, _, h => by
   simp only [den, Option.map_eq_some_iff, Option.bind_eq_some_iff] at h
   obtain ⟨p, _, c, _, rfl⟩ := h
   rfl
 | .ros .., x, _, h => by
   simp only [den, Option.bind_eq_some_iff] at h
   obtain ⟨v, _, h⟩ := h
   rcases rosV_ok h with ⟨rfl, ⟨⟨_, rfl⟩, _⟩ | ⟨b, o, c, rfl, _⟩⟩ <;> rfl
 | .rsl .., x, _, h => by
   simp only [den, Option.bind_eq_some_iff] at h
   obtain ⟨v, _, h⟩ := h
   unfold rslV at h
   split at h
   ·simp only [Option.bind_eq_some_iff] at h
    obtain ⟨u, _, h⟩ := h
    rcases rosV_ok h with ⟨rfl, ⟨⟨_, rfl⟩, _⟩ | ⟨b, o, c, rfl, _⟩⟩ <;> rfl
   ·cases h
 | .rse .., x, _, h => by
   simp only [den, Option.bind_eq_some_iff] at h
   obtain ⟨v, _, h⟩ := h
   unfold rseV at h
   split at h
   ·simp only [Option.bind_eq_some_iff] at h
    obtain ⟨u, _, h⟩ := h
    rcases rosV_ok h with ⟨rfl, ⟨⟨_, rfl⟩, _⟩ | ⟨b, o, c, rfl, _⟩⟩ <;> rfl
   ·cases h
def onesB (vs : List SV) : Bool := vs.all one1
theorem ones_ok {V : Val} : ∀ {vs : List SV} {xs : List Value}, onesB vs = true → denL V vs = some xs → ∀ x ∈ xs, x.oneCell' = true
 | [], xs, _, h => by simp only [denL, Option.some.injEq] at h; subst h; simp
 | v :: vs, xs, h1, h => by
   simp only [denL, Option.map_eq_some_iff, Option.bind_eq_some_iff] at h
   obtain ⟨x, hx, ys, hy, rfl⟩ := h
   simp only [onesB, List.all_cons, Bool.and_eq_true] at h1
   intro z hz
   rcases List.mem_cons.1 hz with rfl | hz
   ·exact one1_ok h1.1 hx
   ·exact ones_ok (by simpa [onesB] using h1.2) hy z hz
theorem cellsOf_ok {V : Val} {v : SV} {x : Value} (h1 : onesB (cellsOf v) = true) (h : den V v = some x) : denL V (cellsOf v) = some x.cells.toList := by
 cases v with
 | agg vs =>
   simp only [den, Option.map_eq_some_iff] at h
   obtain ⟨xs, hx, rfl⟩ := h
   simpa [cellsOf, Value.cells] using hx
 | _ =>
   have hone : x.oneCell' = true := one1_ok (by simpa [onesB, cellsOf] using h1) h
   rw [oneCell_iff x hone]
   simp [cellsOf, denL, h]
def rdL (cs : List SV) (s : Bool) (off n : Nat) : Option (List Prop × List SV) := match s with
 | true => match Nat.beq ((cs.drop off).take n).length n with
   | true => some ([], (cs.drop off).take n)
   | false => none
 | false => none
def rdB (B : SB) (s : Bool) (off n : Nat) : Option (List Prop × List SV) :=
 match B with
 | .own cs _ => rdL cs s off n
 | .row _ cs _ => rdL cs s off n
 | .roc cs => rdL cs s off n
 | .ints k xs _ => some ([off + n ≤ xs.length], (List.range n).map fun j => .int false k (xs.getD (off + j) 0))
 | .roi k xs => some ([off + n ≤ xs.length], (List.range n).map fun j => .int false k (xs.getD (off + j) 0))
 | .vals vs _ => some ([off + n ≤ vs.length], (List.range n).map fun j => .raw (vs.getD (off + j) undef))
 | _ => none
theorem denL_map_range {V : Val} (n : Nat) (f : Nat → SV) (g : Nat → Value) (h : ∀ j, j < n → den V (f j) = some (g j)) : denL V ((List.range n).map f) = some ((List.range n).map g) := by
 induction n with
 | zero => simp [denL]
 | succ n ih =>
   rw [List.range_succ, List.map_append, List.map_append]
   exact denL_append (ih fun j hj => h j (by omega)) (by simp [denL, h n (by omega)])
theorem rdB_ok {V : Val} {w : World} {l : Nat} {B : SB} {s : Bool} {off n : Nat} {ob : List Prop} {r : List SV} {b o : Nat} (hB : okB V w l B) (hβ : V.β l = some (b, o))
  (h : rdB B s off n = some (ob, r)) (ho : ∀ q ∈ ob, q) :
  ∃ xs : List Value, denL V r = some xs ∧ xs.length = n ∧ ∀ (j : Nat) (v : Value), xs[j]? = some v → w.cell? ⟨b, o + off + j, none⟩ = some v := by
 obtain ⟨cs, hc, h2⟩ := hB
 have key : (∀ (j : Nat) (v : Value), cs[j]? = some v → w.cell? ⟨b, o + j, none⟩ = some v) ∨ (∀ b o, V.β l = some (b, o) → False) ∨ (∃ k xs ty, B = .rowi k xs ty) ∨ B = .gone := by
  cases B with
  | own cells ty => obtain ⟨b', hb, hh⟩ := h2; rw [hβ] at hb; cases hb; left; intro j v hj; rw [cell_of_row w b (0 + j) _ _ _ hh]; simpa using hj
  | ints k xs ty => obtain ⟨b', hb, hh⟩ := h2; rw [hβ] at hb; cases hb; left; intro j v hj; rw [cell_of_row w b (0 + j) _ _ _ hh]; simpa using hj
  | vals vs ty => obtain ⟨b', hb, hh⟩ := h2; rw [hβ] at hb; cases hb; left; intro j v hj; rw [cell_of_row w b (0 + j) _ _ _ hh]; simpa using hj
  | roc cells => obtain ⟨b', o', hb, _, hh⟩ := h2; rw [hβ] at hb; cases hb; exact .inl hh
  | roi k xs => obtain ⟨b', o', hb, _, hh⟩ := h2; rw [hβ] at hb; cases hb; exact .inl hh
  | rowi k xs ty => exact .inr (.inr (.inl ⟨_, _, _, rfl⟩))
  | rowx => cases h
  | row sz cells ty =>
    obtain ⟨b', cap, cur, hb, _, hh, _, _, _, htake⟩ := h2
    rw [hβ] at hb; cases hb
    left
    intro j v hj
    rw [cell_of_row w b (0 + j) _ _ _ hh]
    rw [← htake, List.getElem?_take] at hj
    split at hj
    ·simpa using hj
    ·cases hj
  | rowe => cases h
  | rov => cases h
  | rol => cases h
  | rof => cases h
  | rowl => cases h
  | rowp => cases h
  | rop => cases h
  | rolz => cases h
  | gone => exact .inr (.inr (.inr rfl))
 have lst : ∀ cells : List SV, rdL cells s off n = some (ob, r) →
   denL V cells = some cs → ∃ xs : List Value, denL V r = some xs ∧ xs.length = n ∧ ∀ (j : Nat) (v : Value), xs[j]? = some v → cs[off + j]? = some v := by
  intro cells h hc
  unfold rdL at h
  split at h
  ·split at h
   ·rename_i hlen
    simp only [Option.some.injEq, Prod.mk.injEq] at h
    obtain ⟨rfl, rfl⟩ := h
    have hd := denL_take n (denL_drop off hc)
    refine ⟨_, hd, by rw [denL_length hd]; exact Nat.eq_of_beq_eq_true hlen, fun j v hj => ?_⟩
    rw [List.getElem?_take] at hj
    split at hj
    ·rwa [List.getElem?_drop] at hj
    ·cases hj
   ·cases h
  ·cases h
 have rng : ∀ (f : Nat → SV) (gv : Nat → Value), (∀ j, off + j < cs.length → den V (f j) = some (gv j) ∧ cs[off + j]? = some (gv j)) → off + n ≤ cs.length → r = (List.range n).map f →
   ∃ xs : List Value, denL V r = some xs ∧ xs.length = n ∧ ∀ (j : Nat) (v : Value), xs[j]? = some v → cs[off + j]? = some v := by
  intro f gv hf hn hr
  subst hr
  refine ⟨_, denL_map_range n f gv (fun j hj => (hf j (by omega)).1), by simp, fun j v hj => ?_⟩
  by_cases hlt : j < n
  ·simp only [List.getElem?_map, List.getElem?_range hlt, Option.map_some, Option.some.injEq] at hj
   subst hj
   exact (hf j (by omega)).2
  ·rw [List.getElem?_eq_none (by simp; omega)] at hj; cases hj
 have fin : ∀ xs : List Value, (∀ (j : Nat) (v : Value), xs[j]? = some v → cs[off + j]? = some v) → (∀ (j : Nat) (v : Value), cs[j]? = some v → w.cell? ⟨b, o + j, none⟩ = some v) →
   ∀ (j : Nat) (v : Value), xs[j]? = some v → w.cell? ⟨b, o + off + j, none⟩ = some v := fun xs h1 h2 j v hj => by
  rw [Nat.add_assoc]; exact h2 _ _ (h1 j v hj)
 rcases key with key | key | ⟨k, xs, ty, rfl⟩ | rfl
 ·cases B with
  | own cells ty => obtain ⟨xs, h1, h2, h3⟩ := lst cells h hc; exact ⟨xs, h1, h2, fin xs h3 key⟩
  | roc cells => obtain ⟨xs, h1, h2, h3⟩ := lst cells h hc; exact ⟨xs, h1, h2, fin xs h3 key⟩
  | row sz cells ty => obtain ⟨xs, h1, h2, h3⟩ := lst cells h hc; exact ⟨xs, h1, h2, fin xs h3 key⟩
  | ints k ys ty =>
    simp only [rdB, Option.some.injEq, Prod.mk.injEq] at h
    obtain ⟨rfl, rfl⟩ := h
    simp only [SB.cells, Option.some.injEq] at hc
    subst hc
    have hn : off + n ≤ ys.length := ho _ (by simp)
    obtain ⟨xs, h1, h2, h3⟩ := rng _ (fun j => .int k (ys.getD (off + j) 0)) (fun j hj => ⟨rfl, by
     have hj' : off + j < ys.length := by simpa using hj
     simp [hj', List.getD_eq_getElem?_getD]⟩) (by simpa using hn) rfl
    exact ⟨xs, h1, h2, fin xs h3 key⟩
  | roi k ys =>
    simp only [rdB, Option.some.injEq, Prod.mk.injEq] at h
    obtain ⟨rfl, rfl⟩ := h
    simp only [SB.cells, Option.some.injEq] at hc
    subst hc
    have hn : off + n ≤ ys.length := ho _ (by simp)
    obtain ⟨xs, h1, h2, h3⟩ := rng _ (fun j => .int k (ys.getD (off + j) 0)) (fun j hj => ⟨rfl, by
     have hj' : off + j < ys.length := by simpa using hj
     simp [hj', List.getD_eq_getElem?_getD]⟩) (by simpa using hn) rfl
    exact ⟨xs, h1, h2, fin xs h3 key⟩
  | vals ys ty =>
    simp only [rdB, Option.some.injEq, Prod.mk.injEq] at h
    obtain ⟨rfl, rfl⟩ := h
    simp only [SB.cells, Option.some.injEq] at hc
    subst hc
    have hn : off + n ≤ ys.length := ho _ (by simp)
    obtain ⟨xs, h1, h2, h3⟩ := rng _ (fun j => ys.getD (off + j) undef) (fun j hj => ⟨rfl, by
     have hj' : off + j < ys.length := by simpa using hj
     simp [hj', List.getD_eq_getElem?_getD]⟩) (by simpa using hn) rfl
    exact ⟨xs, h1, h2, fin xs h3 key⟩
  | rowi => cases h
  | rov => cases h
  | rowx => cases h
  | rowe => cases h
  | rol => cases h
  | rof => cases h
  | rowl => cases h
  | rowp => cases h
  | rop => cases h
  | rolz => cases h
  | gone => cases h
 ·exact (key b o hβ).elim
 ·cases h
 ·cases h
end Go.Proofs.YtjomfjihopegmaaGreatDoor.Sx
end
section
open Go
namespace Go.Proofs.YtjomfjihopegmaaGreatDoor.Sx
def intsK (k : IntKind) : List SV → Option (List Int)
 | [] => some []
 | .int _ k2 n :: r => match decide (k = k2) with
   | true => (intsK k r).map (n :: ·)
   | false => none
 | _ => none
theorem intsK_ok {V : Val} {k : IntKind} : ∀ {vs : List SV} {ns : List Int}, intsK k vs = some ns → denL V vs = some (ns.map (Value.int k))
 | [], ns, h => by simp only [intsK, Option.some.injEq] at h; subst h; simp [denL]
 | .int s k2 n :: r, ns, h => by
   simp only [intsK] at h
   split at h
   ·rename_i hd
    have := of_decide_eq_true hd
    subst this
    simp only [Option.map_eq_some_iff] at h
    obtain ⟨ms, hm, rfl⟩ := h
    simp [denL, den, intsK_ok hm]
   ·cases h
 | .bool .. :: r, _, h => by cases h
 | .ptr .. :: r, _, h => by cases h
 | .slc .. :: r, _, h => by cases h
 | .agg .. :: r, _, h => by cases h
 | .tup .. :: r, _, h => by cases h
 | .fn .. :: r, _, h => by cases h
 | .ifc .. :: r, _, h => by cases h
 | .raw .. :: r, _, h => by cases h
 | .buf .. :: r, _, h => by cases h
 | .bptr .. :: r, _, h => by cases h
 | .bslc .. :: r, _, h => by cases h
 | .ros .. :: r, _, h => by cases h
 | .ai .. :: r, _, h => by cases h
theorem TabOK.change {w0 w w' : World} {M : Nat → Prop} {V : Val} {T : Tab} (h : TabOK w0 M V T w) {l : Nat} {B0 B : SB} {b : Nat} (hl : T l = some B0) (hown : B0.owned = true) (h0 : B0.blk V l = some b)
  (hok : okB V w' l B) (hb : B.blk V l = some b) (hsize : w.heap.size ≤ w'.heap.size) (hkeep : ∀ n, n < w.heap.size → n ≠ b → w'.heap[n]? = w.heap[n]?)
  (hos : w'.os = w.os) (htape : w'.tape = w.tape) (hout : w'.output = w.output) (lab : Nat) (v : SV) (ob : List Prop) (hpl : B.plain = true := by rfl) :
  TabOK w0 M V (upd T lab { obl := ob, val := v, wr := [(l, B)] }) w' := by
 refine h.step (N := fun k => if k = l then some B else none) (Val.le_refl V) (fun k C hk => ?_) (fun k C hk => ?_) (fun k C n hk hb' => ?_) (fun k C k' C' n hne hk hk' => ?_) hsize (fun n hn hx => ?_) hos htape hout (fun k C hk => froB_plain ?_)
 ·simp only [upd, Eff.tab, newL, List.append_nil] at hk
  by_cases e : l = k
  ·subst e; rw [look_cons_eq] at hk; left; simpa using hk
  ·rw [look_cons_ne e] at hk; right; simp only [look] at hk; exact ⟨if_neg (fun x => e x.symm), hk⟩
 ·by_cases e : k = l
  ·subst e
   simp only [if_true, Option.some.injEq] at hk
   subst hk
   exact hok
  ·simp [e] at hk
 ·by_cases e : k = l
  ·subst e
   simp only [if_true, Option.some.injEq] at hk
   subst hk
   right; left
   rw [hb] at hb'
   cases hb'
   exact ⟨k, B0, hl, hown, h0, by simp⟩
  ·simp [e] at hk
 ·by_cases e : k = l
  ·by_cases e' : k' = l
   ·omega
   ·simp [e'] at hk'
  ·simp [e] at hk
 ·refine hkeep n hn fun e => ?_
  subst e
  exact hx l B0 hl hown (by simp) h0
 ·split at hk
  ·cases hk; exact hpl
  ·cases hk
theorem splice_take {α : Type} (cur cs xs : List α) (off : Nat) (h : cur.take cs.length = cs) (hle : off + xs.length ≤ cs.length) :
  (cur.take off ++ xs ++ cur.drop (off + xs.length)).take cs.length = cs.take off ++ xs ++ cs.drop (off + xs.length) := by
 have hl : cs.length ≤ cur.length := by
  have := congrArg List.length h
  rw [List.length_take] at this
  omega
 apply List.ext_getElem?
 intro j
 have hj : ∀ i, i < cs.length → cur[i]? = cs[i]? := fun i hi => by
  have := congrArg (fun z => z[i]?) h
  simpa [List.getElem?_take, hi] using this
 rw [List.getElem?_take]
 have e1 : (cur.take off).length = off := by simp; omega
 have e2 : (cs.take off).length = off := by simp; omega
 split
 ·rename_i hlt
  simp only [List.getElem?_append, List.length_append, e1, e2, List.getElem?_take, List.getElem?_drop]
  split
  ·split
   ·rename_i h3; exact hj j hlt
   ·rfl
  ·rw [hj _ (by omega)]
 ·rename_i hge
  symm
  apply List.getElem?_eq_none
  simp
  omega
def wrB (B : SB) (s : Bool) (off : Nat) (vs : List SV) : Option (List Prop × SB) :=
 match B with
 | .own cs ty => match s with
   | true => match Nat.ble (off + vs.length) cs.length with
     | true => some ([], .own (cs.take off ++ vs ++ cs.drop (off + vs.length)) ty)
     | false => none
   | false => match vs with
     | [.int _ k n] => match intsK k cs with
       | some ys => some ([off < ys.length], .ints k (ys.set off n) ty)
       | none => none
     | _ => none
 | .row sz cs ty => match s with
   | true => match Nat.ble (off + vs.length) cs.length with
     | true => some ([], .row sz (cs.take off ++ vs ++ cs.drop (off + vs.length)) ty)
     | false => none
   | false => none
 | .ints k xs ty => match vs with
   | [.int _ k2 n] => match decide (k = k2) with
     | true => some ([off < xs.length], .ints k (xs.set off n) ty)
     | false => none
   | _ => match intsK k vs with
     | some ns => some ([off + ns.length ≤ xs.length], .ints k (xs.take off ++ ns ++ xs.drop (off + ns.length)) ty)
     | none => none
 | .vals us ty => match vs with
   | [.raw u] => some ([off < us.length], .vals (us.set off u) ty)
   | _ => none
 | _ => none
theorem set_splice {α : Type} (l : List α) (i : Nat) (x : α) (h : i < l.length) : l.set i x = l.take i ++ [x] ++ l.drop (i + 1) := by
 rw [List.set_eq_take_append_cons_drop, if_pos h]; simp
theorem wrB_ok {V : Val} {w w0 : World} {M : Nat → Prop} {T : Tab} {l : Nat} {B B' : SB} {s : Bool} {off : Nat} {vs : List SV} {ob : List Prop} {b o : Nat} {P : Program} {xs : List Value} (lab : Nat) (rv : SV)
  (hT : TabOK w0 M V T w) (hl : T l = some B) (hβ : V.β l = some (b, o)) (h : wrB B s off vs = some (ob, B')) (ho : ∀ q ∈ ob, q) (hx : denL V vs = some xs) (h1 : ∀ x ∈ xs, x.oneCell' = true) :
  ∃ w', (storeCells ⟨b, o + off, none⟩ xs).run P w = .ok () w' ∧ TabOK w0 M V (upd T lab { obl := ob, val := rv, wr := [(l, B')] }) w' := by
 have hok := hT.ok l B hl
 obtain ⟨cs, hc, h2⟩ := hok
 cases B with
 | own cells ty =>
   obtain ⟨b', hb, hh⟩ := h2
   rw [hβ] at hb; cases hb
   simp only [wrB] at h
   split at h
   ·split at h
    ·rename_i hle
     simp only [Option.some.injEq, Prod.mk.injEq] at h
     obtain ⟨rfl, rfl⟩ := h
     have hle' := Nat.le_of_ble_eq_true hle
     have hlen := denL_length (show denL V cells = some cs from hc)
     have hxl := denL_length hx
     refine ⟨_, run_storeCells_at P b (0 + off) ty xs 0 cs.toArray w hh (by simp; omega) h1, ?_⟩
     have hcells : denL V (cells.take off ++ vs ++ cells.drop (off + vs.length)) = some (cs.take off ++ xs ++ cs.drop (off + xs.length)) := by
      rw [hxl]
      exact denL_append (denL_append (denL_take off hc) hx) (denL_drop _ hc)
     have := hT.write (B0 := .own cells ty) (B := .own (cells.take off ++ vs ++ cells.drop (off + vs.length)) ty) hl hβ rfl (by simp [SB.blk, hβ]) hh hcells (.inl rfl) lab rv []
     simpa using this
    ·cases h
   ·split at h
    case h_2 => cases h
    rename_i s2 k n
    split at h
    case h_2 => cases h
    rename_i ys hys
    simp only [Option.some.injEq, Prod.mk.injEq] at h
    obtain ⟨rfl, rfl⟩ := h
    have hlt : off < ys.length := ho _ (by simp)
    have hcs := intsK_ok (V := V) hys
    rw [show denL V cells = some cs from hc] at hcs
    cases hcs
    simp only [denL, den, Option.bind_some, Option.map_some, Option.some.injEq] at hx
    subst hx
    refine ⟨_, run_storeCells_at P b (0 + off) ty _ 0 _ w hh (by simp; omega) h1, ?_⟩
    have hcells : SB.cells V (.ints k (ys.set off n) ty) = some ((ys.map (Value.int k)).take off ++ [Value.int k n] ++ (ys.map (Value.int k)).drop (off + 1)) := by
     rw [set_splice ys off n hlt]
     simp [SB.cells, List.map_take, List.map_drop]
    have := hT.write (B0 := .own cells ty) (B := .ints k (ys.set off n) ty) hl hβ rfl (by simp [SB.blk, hβ]) hh hcells (.inr (.inl rfl)) lab rv [off < ys.length]
    simpa using this
 | row sz cells ty =>
   obtain ⟨b', cap, cur, hb, hσ, hh, hcm, hcs, ⟨n, hn, hnc⟩, htake⟩ := h2
   rw [hβ] at hb; cases hb
   simp only [wrB] at h
   split at h
   ·split at h
    ·rename_i hle
     simp only [Option.some.injEq, Prod.mk.injEq] at h
     obtain ⟨rfl, rfl⟩ := h
     have hle' := Nat.le_of_ble_eq_true hle
     have hlen := denL_length (show denL V cells = some cs from hc)
     have hxl := denL_length hx
     have hcl : cs.length ≤ cur.size := by rw [hn, hcs]; exact Nat.mul_le_mul_right _ hnc
     have hcells : denL V (cells.take off ++ vs ++ cells.drop (off + vs.length)) = some (cs.take off ++ xs ++ cs.drop (off + xs.length)) := by
      rw [hxl]
      exact denL_append (denL_append (denL_take off hc) hx) (denL_drop _ hc)
     have hll : (cs.take off ++ xs ++ cs.drop (off + xs.length)).length = cs.length := by simp; omega
     refine ⟨_, run_storeCells_at P b (0 + off) ty xs 0 cur w hh (by simp; omega) h1, ?_⟩
     have hheap := setRow_heap w b cur (cur.toList.take (0 + off + 0) ++ xs ++ cur.toList.drop (0 + off + 0 + xs.length)).toArray ty (0, 0) hh
     have hokB : okB V (w.setRow b (cur.toList.take (0 + off + 0) ++ xs ++ cur.toList.drop (0 + off + 0 + xs.length)).toArray) l (.row sz (cells.take off ++ vs ++ cells.drop (off + vs.length)) ty) := by
      refine ⟨_, hcells, b, cap, _, hβ, hσ, hheap, hcm, ?_, ⟨n, by rw [hll, hn], hnc⟩, ?_⟩
      ·simp [← hcs]; omega
      ·rw [hll]
       simpa using splice_take cur.toList cs xs off htake (by omega)
     exact hT.change (B0 := .row sz cells ty) (b := b) hl rfl (by simp [SB.blk, hβ]) hokB (by simp [SB.blk, hβ]) (by simp) (fun n _ hne => setRow_other w b n _ hne) rfl rfl rfl lab rv []
    ·cases h
   ·cases h
 | ints k ys ty =>
   obtain ⟨b', hb, hh⟩ := h2
   rw [hβ] at hb; cases hb
   simp only [SB.cells, Option.some.injEq] at hc
   subst hc
   have gen : ∀ ns : List Int, denL V vs = some (ns.map (Value.int k)) → off + ns.length ≤ ys.length → ∀ ob,
     ∃ w', (storeCells ⟨b, 0 + off, none⟩ xs).run P w = .ok () w' ∧ TabOK w0 M V (upd T lab { obl := ob, val := rv, wr := [(l, .ints k (ys.take off ++ ns ++ ys.drop (off + ns.length)) ty)] }) w' := by
    intro ns hns hle ob
    rw [hx] at hns
    cases hns
    refine ⟨_, run_storeCells_at P b (0 + off) ty _ 0 _ w hh (by simp; omega) h1, ?_⟩
    have hcells : SB.cells V (.ints k (ys.take off ++ ns ++ ys.drop (off + ns.length)) ty) = some ((ys.map (Value.int k)).take off ++ ns.map (Value.int k) ++ (ys.map (Value.int k)).drop (off + (ns.map (Value.int k)).length)) := by
     simp [SB.cells, List.map_take, List.map_drop]
    have := hT.write (B0 := .ints k ys ty) (B := .ints k (ys.take off ++ ns ++ ys.drop (off + ns.length)) ty) hl hβ rfl (by simp [SB.blk, hβ]) hh hcells (.inr (.inl rfl)) lab rv ob
    simpa using this
   simp only [wrB] at h
   split at h
   ·rename_i s2 k2 n
    split at h
    ·rename_i hd
     have := of_decide_eq_true hd
     subst this
     simp only [Option.some.injEq, Prod.mk.injEq] at h
     obtain ⟨rfl, rfl⟩ := h
     have hlt : off < ys.length := ho _ (by simp)
     obtain ⟨w', hr, hT'⟩ := gen [n] (by simp [denL, den]) (by simp only [List.length_singleton]; omega) [off < ys.length]
     rw [set_splice ys off n hlt]
     exact ⟨w', hr, hT'⟩
    ·cases h
   ·split at h
    ·rename_i ns hns
     simp only [Option.some.injEq, Prod.mk.injEq] at h
     obtain ⟨rfl, rfl⟩ := h
     have hle : off + ns.length ≤ ys.length := ho _ (by simp)
     exact gen ns (intsK_ok hns) hle _
    ·cases h
 | vals us ty =>
   obtain ⟨b', hb, hh⟩ := h2
   rw [hβ] at hb; cases hb
   simp only [SB.cells, Option.some.injEq] at hc
   subst hc
   simp only [wrB] at h
   split at h
   case h_2 => cases h
   rename_i u
   simp only [Option.some.injEq, Prod.mk.injEq] at h
   obtain ⟨rfl, rfl⟩ := h
   have hlt : off < us.length := ho _ (by simp)
   simp only [denL, den, Option.bind_some, Option.map_some, Option.some.injEq] at hx
   subst hx
   refine ⟨_, run_storeCells_at P b (0 + off) ty _ 0 _ w hh (by simp; omega) h1, ?_⟩
   have := hT.write (B0 := .vals us ty) (B := .vals (us.set off u) ty) hl hβ rfl (by simp [SB.blk, hβ]) hh (cs := us.take off ++ [u] ++ us.drop (off + [u].length)) (by rw [SB.cells, set_splice us off u hlt]; rfl) (.inr (.inr rfl)) lab rv [off < us.length]
   simpa using this
 | _ => cases h
section Ops
variable {P : Program} {Γ : Env} {V : Val} {w w0 : World} {M : Nat → Prop} {T : Tab} {g : Nat → Option SV} {a : Act} {o : Oper} {e : Eff}
def eLoad (Γ : Env) (g : Nat → Option SV) (T : Tab) (t : TypeId) (x : Operand) : Option Eff :=
 match ev Γ g x, Γ.ty t with
 | some (.ptr l s off), some ti => match T l with
   | some B => match rdB B s off ti.size with
     | some (ob, r) => match aggD ti.desc with
       | true => some (withO (.agg r) ob)
       | false => match r with
         | [v] => some (withO v ob)
         | _ => none
     | none => none
   | none => none
 | some (.bptr l off), some ti => match T l, aggD ti.desc with
   | some (.rowi k xs _), false => some (withO (.int false k (xs.getD off 0)) [off < xs.length])
   | some (.rov k xs), false => some (withO (.int false k (xs.getD off 0)) [off < xs.length])
   | _, _ => none
 | _, _ => none
theorem eLoad_ok (hty : TyOK P Γ) (ht : TmpOK V g a) (hg : GlobOK Γ V) {T' : Tab} (hsub : ∀ l B, T' l = some B → T l = some B) (hT : TabOK w0 M V T w) {t : TypeId} {x : Operand} (hop : o.op = .load t x)
  (he : eLoad Γ g T' t x = some e) (ho : ∀ q ∈ e.obl, q) (lab : Nat) : Sim P w0 M V T lab e o a w := by
 unfold eLoad at he
 split at he
 ·rename_i l s off ti hx hti
  have ex := ev_ok ht hg hx
  simp only [den, Option.map_eq_some_iff] at ex
  obtain ⟨⟨b, base⟩, hβ, ex⟩ := ex
  obtain ⟨hu, i, z, hi, hsz, _⟩ := hty t ti hti
  split at he
  ·rename_i B hB
   have hok := hT.ok l B (hsub l B hB)
   split at he
   ·rename_i ob r hr
    split at he
    ·rename_i hagg
     simp only [withO, Option.some.injEq] at he
     subst he
     obtain ⟨xs, h1, h2, h3⟩ := rdB_ok hok hβ hr ho
     have := (run_loadVar_cells hu hi b (base + off) xs (by rw [h2, hsz]) h3).1 hagg
     refine sim_pure (x := .agg xs.toArray) ?_ (by simp [den, h1]) rfl rfl hT
     unfold execOp
     simp only [hop, ← ex, Instr.loadAt, Instr.sureAddr, Sem.run_bind, Sem.run_pure, Result.andThen_ok, this]
    ·rename_i hagg
     split at he
     ·rename_i v
      simp only [withO, Option.some.injEq] at he
      subst he
      obtain ⟨xs, h1, h2, h3⟩ := rdB_ok hok hβ hr ho
      simp only [denL, Option.map_eq_some_iff, Option.bind_eq_some_iff] at h1
      obtain ⟨y, hy, ys, hys, rfl⟩ := h1
      simp only [Option.some.injEq] at hys
      subst hys
      have := (run_loadVar_cells hu hi b (base + off) [y] (by rw [h2, hsz]) h3).2 hagg y rfl
      refine sim_pure (x := y) ?_ hy rfl rfl hT
      unfold execOp
      simp only [hop, ← ex, Instr.loadAt, Instr.sureAddr, Sem.run_bind, Sem.run_pure, Result.andThen_ok, this]
     ·cases he
   ·cases he
  ·cases he
 ·rename_i l off ti hx hti
  have ex := ev_ok ht hg hx
  obtain ⟨hu, i, z, hi, hsz, _⟩ := hty t ti hti
  split at he
  ·rename_i k xs ty hB hagg
   simp only [withO, Option.some.injEq] at he
   subst he
   have hlt : off < xs.length := ho _ (by simp)
   obtain ⟨cs, hc, v, hσ, hrow⟩ := hT.ok l _ (hsub l _ hB)
   simp only [SB.cells, Option.some.injEq] at hc
   subst hc
   simp only [den, hσ] at ex
   obtain ⟨_, hrow⟩ := hrow
   rcases hrow with ⟨_, h0⟩ | ⟨gb, cap, cur, rfl, _, hh, _, _, _, htake⟩
   ·rw [h0] at hlt; omega
   ·simp only [Option.some.injEq] at ex
    have hcell : w.cell? ⟨gb, 0 + off, none⟩ = some (.int k (xs.getD off 0)) := by
     rw [cell_of_row w gb _ _ _ _ hh]
     have h5 : (cur.toList.take (xs.length * 1))[off]? = some (.int k (xs.getD off 0)) := by
      rw [htake]; simp [hlt, List.getD_eq_getElem?_getD]
     rw [List.getElem?_take] at h5
     split at h5
     ·simpa using h5
     ·cases h5
    refine sim_pure (x := .int k (xs.getD off 0)) ?_ rfl rfl rfl hT
    unfold execOp
    rw [add_addr] at ex
    simp only [Nat.zero_add] at ex hcell
    simp only [hop, ← ex, Instr.loadAt, Instr.sureAddr, loadVar, Sem.run_bind, Sem.run_pure, Result.andThen_ok, run_isAgg hu, hagg, Bool.false_eq_true, if_false, run_load, hcell]
  ·rename_i k xs hB hagg
   simp only [withO, Option.some.injEq] at he
   subst he
   have hlt : off < xs.length := ho _ (by simp)
   obtain ⟨cs, hc, v, hσ, hrow⟩ := hT.ok l _ (hsub l _ hB)
   simp only [SB.cells, Option.some.injEq] at hc
   subst hc
   simp only [den, hσ] at ex
   rcases hrow with ⟨_, h0⟩ | ⟨gb, go, cap, rfl, _, _, hh⟩
   ·rw [h0] at hlt; simp at hlt
   ·simp only [Option.some.injEq] at ex
    have hcell : w.cell? ⟨gb, go + off, none⟩ = some (.int k (xs.getD off 0)) := hh off _ (by simp [hlt, List.getD_eq_getElem?_getD])
    refine sim_pure (x := .int k (xs.getD off 0)) ?_ rfl rfl rfl hT
    unfold execOp
    rw [add_addr] at ex
    simp only [hop, ← ex, Instr.loadAt, Instr.sureAddr, loadVar, Sem.run_bind, Sem.run_pure, Result.andThen_ok, run_isAgg hu, hagg, Bool.false_eq_true, if_false, run_load, hcell]
  ·cases he
 ·cases he
def bufT (T : Tab) (l : Nat) : Bool := match T l with
 | some (.rowi ..) => true
 | some (.rowx ..) => true
 | some (.rowp ..) => true
 | _ => false
theorem bufT_ok {T' : Tab} (hsub : ∀ l B, T' l = some B → T l = some B) {l : Nat} {x : Value} (hT : TabOK w0 M V T w) (h : bufT T' l = true) (hx : den V (.buf l) = some x) : x.oneCell' = true ∧ x.cells = #[x] := by
 unfold bufT at h
 split at h
 ·rename_i hB
  obtain ⟨_, _, u, hσ, hrow⟩ := hT.ok l _ (hsub l _ hB)
  simp only [den] at hx
  rw [hσ] at hx; cases hx
  rcases hrow.2 with ⟨rfl, _⟩ | ⟨_, _, _, rfl, _⟩ <;> exact ⟨rfl, rfl⟩
 ·rename_i hB
  obtain ⟨_, _, hok⟩ := hT.ok l _ (hsub l _ hB)
  obtain ⟨cs, u, hσ, hrow, _⟩ := hok
  simp only [den] at hx
  rw [hσ] at hx; cases hx
  rcases hrow.2 with ⟨rfl, _⟩ | ⟨_, _, _, rfl, _⟩ <;> exact ⟨rfl, rfl⟩
 ·rename_i hB
  obtain ⟨_, _, u, hσ, hrow⟩ := hT.ok l _ (hsub l _ hB)
  simp only [den] at hx
  rw [hσ] at hx; cases hx
  rcases hrow.2 with ⟨rfl, _⟩ | ⟨_, _, _, rfl, _⟩ <;> exact ⟨rfl, rfl⟩
 ·cases h
def onesT (T : Tab) (vs : List SV) : Bool := vs.all fun v => match v with
 | .buf l => bufT T l
 | v => one1 v
theorem onesT_ok {T' : Tab} (hsub : ∀ l B, T' l = some B → T l = some B) (hT : TabOK w0 M V T w) : ∀ {vs : List SV} {xs : List Value}, onesT T' vs = true → denL V vs = some xs → ∀ x ∈ xs, x.oneCell' = true
 | [], xs, _, h => by simp only [denL, Option.some.injEq] at h; subst h; simp
 | v :: vs, xs, h1, h => by
   simp only [denL, Option.map_eq_some_iff, Option.bind_eq_some_iff] at h
   obtain ⟨x, hx, ys, hy, rfl⟩ := h
   simp only [onesT, List.all_cons, Bool.and_eq_true] at h1
   intro z hz
   rcases List.mem_cons.1 hz with rfl | hz
   ·have h1 := h1.1
    split at h1
    ·exact (bufT_ok hsub hT h1 hx).1
    ·exact one1_ok h1 hx
   ·exact onesT_ok hsub hT (by simpa [onesT] using h1.2) hy z hz
theorem cellsOf_okT {T' : Tab} (hsub : ∀ l B, T' l = some B → T l = some B) (hT : TabOK w0 M V T w) {v : SV} {x : Value} (h1 : onesT T' (cellsOf v) = true) (h : den V v = some x) : denL V (cellsOf v) = some x.cells.toList := by
 cases v with
 | agg vs =>
   simp only [den, Option.map_eq_some_iff] at h
   obtain ⟨xs, hx, rfl⟩ := h
   simpa [cellsOf, Value.cells] using hx
 | _ =>
   have hone : x.oneCell' = true := onesT_ok hsub hT (vs := [_]) (xs := [x]) (by simpa [cellsOf] using h1) (by simp [denL, h]) x (by simp)
   rw [oneCell_iff x hone]
   simp [cellsOf, denL, h]
def eStore (Γ : Env) (g : Nat → Option SV) (T : Tab) (t : TypeId) (x y : Operand) : Option Eff :=
 match ev Γ g x, ev Γ g y, Γ.ty t with
 | some (.ptr l s off), some v, some ti => match T l, Nat.beq (cellsOf v).length ti.size, onesT T (cellsOf v) with
   | some B, true, true => match wrB B s off (cellsOf v) with
     | some (ob, B') => some { obl := ob, val := .raw undef, wr := [(l, B')] }
     | none => none
   | _, _, _ => none
 | _, _, _ => none
theorem eStore_ok (hty : TyOK P Γ) (ht : TmpOK V g a) (hg : GlobOK Γ V) {T' : Tab} (hsub : ∀ l B, T' l = some B → T l = some B) (hT : TabOK w0 M V T w) {t : TypeId} {x y : Operand} (hop : o.op = .store t x y)
  (he : eStore Γ g T' t x y = some e) (ho : ∀ q ∈ e.obl, q) (lab : Nat) : Sim P w0 M V T lab e o a w := by
 unfold eStore at he
 split at he
 ·rename_i l s off v ti hx hy hti
  have ex := ev_ok ht hg hx
  simp only [den, Option.map_eq_some_iff] at ex
  obtain ⟨⟨b, base⟩, hβ, ex⟩ := ex
  have ey := ev_ok ht hg hy
  obtain ⟨hu, i, z, hi, hsz, _⟩ := hty t ti hti
  split at he
  ·rename_i B hB hlen hone
   split at he
   ·rename_i ob B' hw
    simp only [Option.some.injEq] at he
    subst he
    have hcells := cellsOf_okT hsub hT hone ey
    have hones := onesT_ok hsub hT hone hcells
    obtain ⟨w', h1, h2⟩ := wrB_ok (P := P) lab (.raw undef) hT (hsub l B hB) hβ hw ho hcells hones
    intro K Q hK
    have hl : (a.eval y).cells.size = i.size := by
     have := denL_length hcells
     rw [hsz, ← Nat.eq_of_beq_eq_true hlen, ← this]; simp
    unfold Oper.wp
    have hrun : (execOp a.eval o).run P w = .ok .skip w' := by
     unfold execOp
     simp [hop, ← ex, Instr.storeAt, Instr.sureAddr, storeVar, run_sizeOf hi, hl, h1]
    rw [hrun, Oper.upon_skip]
    exact hK V undef w' (V.ext_refl lab) rfl h2
   ·cases he
  ·cases he
 ·cases he
theorem sim_new (hT : TabOK w0 M V T w) {lab : Nat} (hf : V.fresh lab) {cells : List SV} {cs : List Value} {ty : TypeId} (hc : denL V cells = some cs)
  (hr : (execOp a.eval o).run P w = .ok (.value (.pointer (some ⟨w.heap.size, 0, none⟩))) (w.alloc (.cells cs.toArray ty))) :
  Sim P w0 M V T lab { val := .ptr lab true 0, new := [.own cells ty] } o a w := by
 intro K Q hK
 unfold Oper.wp
 rw [hr, Oper.upon_value]
 have := hT.alloc hf (B := .own cells ty) (.inl rfl) hc (.ptr lab true 0) []
 exact hK _ _ _ (Val.put_ext hf lab (Nat.le_refl _) (by omega) _) (by simp [den, Val.put]) this
def eAlloc (Γ : Env) (t : TypeId) (lab : Nat) : Option Eff :=
 match Γ.ty t with
 | some ti => some { val := .ptr lab true 0, new := [.own ti.zero t] }
 | none => none
theorem eAlloc_ok (hty : TyOK P Γ) (hT : TabOK w0 M V T w) {t : TypeId} (hop : o.op = .alloc t) {lab : Nat} (hf : V.fresh lab) (he : eAlloc Γ t lab = some e) : Sim P w0 M V T lab e o a w := by
 unfold eAlloc at he
 split at he
 ·rename_i ti hti
  simp only [Option.some.injEq] at he
  subst he
  obtain ⟨hu, i, z, hi, hsz, _, hz, hzero⟩ := hty t ti hti
  refine sim_new hT hf (hzero V) ?_
  unfold execOp
  simp [hop, Instr.alloc, run_zeroValue hi hz, newVar, newRow]
 ·cases he
def eBox (Γ : Env) (g : Nat → Option SV) (T : Tab) (t : TypeId) (x : Operand) (lab : Nat) : Option Eff :=
 match ev Γ g x with
 | some v => match onesT T (cellsOf v) with
   | true => some { val := .ptr lab true 0, new := [.own (cellsOf v) t] }
   | false => none
 | none => none
theorem eBox_ok (ht : TmpOK V g a) (hg : GlobOK Γ V) {T' : Tab} (hsub : ∀ l B, T' l = some B → T l = some B) (hT : TabOK w0 M V T w) {t : TypeId} {x : Operand} (hop : o.op = .box t x) {lab : Nat} (hf : V.fresh lab) (he : eBox Γ g T' t x lab = some e) : Sim P w0 M V T lab e o a w := by
 unfold eBox at he
 split at he
 ·rename_i v hx
  split at he
  ·rename_i hone
   simp only [Option.some.injEq] at he
   subst he
   have ex := ev_ok ht hg hx
   refine sim_new hT hf (cellsOf_okT hsub hT hone ex) ?_
   unfold execOp
   simp [hop, Instr.box, newVar, newRow]
  ·cases he
 ·cases he
end Ops
end Go.Proofs.YtjomfjihopegmaaGreatDoor.Sx
end
section
open Go
namespace Go.Proofs.YtjomfjihopegmaaGreatDoor.Sx
section Ops
variable {P : Program} {Γ : Env} {V : Val} {w w0 : World} {M : Nat → Prop} {T : Tab} {g : Nat → Option SV} {a : Act} {o : Oper} {e : Eff}
def eMove (Γ : Env) (g : Nat → Option SV) (x : Operand) : Option Eff := (ev Γ g x).bind lit
theorem eMove_ok (ht : TmpOK V g a) (hg : GlobOK Γ V) (hT : TabOK w0 M V T w) {x : Operand} (hop : o.op = .move x ∨ o.op = .assign x) (he : eMove Γ g x = some e) (lab : Nat) : Sim P w0 M V T lab e o a w := by
 simp only [eMove, Option.bind_eq_some_iff, lit, Option.some.injEq] at he
 obtain ⟨v, hv, rfl⟩ := he
 refine sim_pure (x := a.eval x) ?_ (ev_ok ht hg hv) rfl rfl hT
 unfold execOp
 rcases hop with h | h <;> simp only [h] <;> rfl
def ePick (Γ : Env) (g : Nat → Option SV) (c x y : Operand) : Option Eff :=
 match ev Γ g c with
 | some (.bool true b) => match b with
   | true => (ev Γ g x).bind lit
   | false => (ev Γ g y).bind lit
 | _ => none
theorem ePick_ok (ht : TmpOK V g a) (hg : GlobOK Γ V) (hT : TabOK w0 M V T w) {c x y : Operand} (hop : o.op = .pick c x y) (he : ePick Γ g c x y = some e) (lab : Nat) : Sim P w0 M V T lab e o a w := by
 unfold ePick at he
 split at he
 ·rename_i b hc
  have ec := ev_ok ht hg hc
  simp only [den, Option.some.injEq] at ec
  split at he
  ·simp only [Option.bind_eq_some_iff, lit, Option.some.injEq] at he
   obtain ⟨v, hv, rfl⟩ := he
   refine sim_pure (x := a.eval x) ?_ (ev_ok ht hg hv) rfl rfl hT
   unfold execOp
   simp only [hop, ← ec]
   rfl
  ·simp only [Option.bind_eq_some_iff, lit, Option.some.injEq] at he
   obtain ⟨v, hv, rfl⟩ := he
   refine sim_pure (x := a.eval y) ?_ (ev_ok ht hg hv) rfl rfl hT
   unfold execOp
   simp only [hop, ← ec]
   rfl
 ·cases he
def eNil (Γ : Env) (g : Nat → Option SV) (x : Operand) : Option Eff :=
 match ev Γ g x with
 | some (.ptr l s off) => lit (.ptr l s off)
 | some (.bptr l off) => lit (.bptr l off)
 | some (.ifc t v) => lit (.ifc t v)
 | some (.fn (.func f) xs cs) => lit (.fn (.func f) xs cs)
 | _ => none
theorem eNil_ok (ht : TmpOK V g a) (hg : GlobOK Γ V) (hT : TabOK w0 M V T w) {x : Operand} (hop : o.op = .nilCheck x) (he : eNil Γ g x = some e) (lab : Nat) : Sim P w0 M V T lab e o a w := by
 unfold eNil at he
 split at he <;> first | (cases he; done) | skip
 all_goals
  rename_i hx
  simp only [lit, Option.some.injEq] at he
  subst he
  have ex := ev_ok ht hg hx
  refine sim_pure (x := a.eval x) ?_ ex rfl rfl hT
  simp only [den, Option.map_eq_some_iff, Option.bind_eq_some_iff] at ex
 ·obtain ⟨p, _, ex⟩ := ex; unfold execOp; simp only [hop, ← ex]; rfl
 ·split at ex
  ·simp only [Option.some.injEq] at ex; unfold execOp; simp only [hop, ← ex]; rfl
  ·cases ex
 ·obtain ⟨p, _, ex⟩ := ex; unfold execOp; simp only [hop, ← ex]; rfl
 ·obtain ⟨p, _, q, _, ex⟩ := ex; unfold execOp; simp only [hop, ← ex]; rfl
def eExtract (Γ : Env) (g : Nat → Option SV) (x : Operand) (i : Nat) : Option Eff :=
 match ev Γ g x with
 | some (.tup vs) => (vs[i]?).bind lit
 | _ => none
theorem eExtract_ok (ht : TmpOK V g a) (hg : GlobOK Γ V) (hT : TabOK w0 M V T w) {x : Operand} {i : Nat} (hop : o.op = .extract x i) (he : eExtract Γ g x i = some e) (lab : Nat) : Sim P w0 M V T lab e o a w := by
 unfold eExtract at he
 split at he
 ·rename_i vs hx
  simp only [Option.bind_eq_some_iff, lit, Option.some.injEq] at he
  obtain ⟨v, hv, rfl⟩ := he
  have ex := ev_ok ht hg hx
  simp only [den, Option.map_eq_some_iff] at ex
  obtain ⟨xs, hxs, ex⟩ := ex
  obtain ⟨y, hy, hd⟩ := denL_get hxs i v hv
  refine sim_pure (x := y) ?_ hd rfl rfl hT
  unfold execOp
  simp [hop, ← ex, Instr.extract, hy]
 ·cases he
def eMakeFunc (Γ : Env) (g : Nat → Option SV) (f : Fn) (xs cs : Array Operand) : Option Eff :=
 match evL Γ g xs.toList, evL Γ g cs.toList with
 | some us, some vs => lit (.fn f us vs)
 | _, _ => none
theorem eMakeFunc_ok (ht : TmpOK V g a) (hg : GlobOK Γ V) (hT : TabOK w0 M V T w) {f : Fn} {xs cs : Array Operand} (hop : o.op = .makeFunc f xs cs) (he : eMakeFunc Γ g f xs cs = some e) (lab : Nat) : Sim P w0 M V T lab e o a w := by
 unfold eMakeFunc at he
 split at he
 ·rename_i us vs h1 h2
  simp only [lit, Option.some.injEq] at he
  subst he
  refine sim_pure (x := .func f (xs.map a.eval) (cs.map a.eval)) ?_ ?_ rfl rfl hT
  ·unfold execOp; simp only [hop]; rfl
  ·simp only [den, evL_ok ht hg h1, evL_ok ht hg h2, Option.bind_some, Option.map_some]
   congr 2 <;> (rw [← Array.toList_inj]; simp)
 ·cases he
def concD : TypeDesc → Bool
 | .interface _ => false
 | _ => true
def eMakeIface (Γ : Env) (g : Nat → Option SV) (t : TypeId) (x : Operand) : Option Eff :=
 match ev Γ g x, Γ.ty t with
 | some v, some ti => match concD ti.desc with
   | true => lit (.ifc t v)
   | false => none
 | _, _ => none
theorem eMakeIface_ok (hty : TyOK P Γ) (ht : TmpOK V g a) (hg : GlobOK Γ V) (hT : TabOK w0 M V T w) {t : TypeId} {x : Operand} (hop : o.op = .makeInterface t x) (he : eMakeIface Γ g t x = some e) (lab : Nat) : Sim P w0 M V T lab e o a w := by
 unfold eMakeIface at he
 split at he
 ·rename_i v ti hv hti
  split at he
  ·rename_i hc
   simp only [lit, Option.some.injEq] at he
   subst he
   refine sim_pure (x := .iface t (a.eval x)) ?_ (by simp [den, ev_ok ht hg hv]) rfl rfl hT
   unfold execOp
   simp only [hop, Instr.makeInterface, Sem.run_bind, run_underlying (hty t ti hti).1 w, Result.andThen_ok]
   cases hd : ti.desc <;> first | rfl | (rw [hd] at hc; cases hc)
  ·cases he
 ·cases he
def eField (Γ : Env) (g : Nat → Option SV) (t : TypeId) (x : Operand) (n : Nat) : Option Eff :=
 match ev Γ g x, Γ.ty t with
 | some (.ptr l s off), some ti => match ti.desc with
   | .struct fs => match fs.toList[n]? with
     | some f => match Γ.ty f.type with
       | some tf => match Nat.beq tf.size 0 with
         | true => none
         | false => lit (.ptr l s (off + f.offset))
       | none => none
     | none => none
   | _ => none
 | _, _ => none
theorem eField_ok (hty : TyOK P Γ) (ht : TmpOK V g a) (hg : GlobOK Γ V) (hT : TabOK w0 M V T w) {t : TypeId} {x : Operand} {n : Nat} (hop : o.op = .fieldAddr t x n) (he : eField Γ g t x n = some e) (lab : Nat) : Sim P w0 M V T lab e o a w := by
 unfold eField at he
 split at he
 ·rename_i l s off ti hx hti
  split at he
  ·rename_i fs hfs
   split at he
   ·rename_i f hf
    split at he
    ·rename_i tf htf
     split at he
     ·cases he
     ·rename_i hsz
      simp only [lit, Option.some.injEq] at he
      subst he
      have ex := ev_ok ht hg hx
      simp only [den, Option.map_eq_some_iff] at ex
      obtain ⟨⟨b, base⟩, hβ, ex⟩ := ex
      obtain ⟨_, i, z, hi, hisz, _⟩ := hty f.type tf htf
      have hne : ¬ i.size = 0 := by
       rw [hisz]; intro h0; rw [h0] at hsz; cases hsz
      refine sim_pure (x := .pointer (some ⟨b, base + (off + f.offset), none⟩)) ?_ (by simp [den, hβ]) rfl rfl hT
      have hu := (hty t ti hti).1
      rw [hfs] at hu
      have hf' : fs[n]? = some f := by rw [← Array.getElem?_toList]; exact hf
      unfold execOp
      simp only [hop, ← ex, Instr.fieldAt, Sem.run_bind, run_underlying hu w, Result.andThen_ok, hf', Instr.sureAddr, Sem.run_pure, fieldPlace, run_sizeOf hi, if_neg hne, add_addr, Nat.add_assoc]
    ·cases he
   ·cases he
  ·cases he
 ·cases he
def eIndexAddr (Γ : Env) (g : Nat → Option SV) (t : TypeId) (x y : Operand) : Option Eff :=
 match ev Γ g x, ev Γ g y, Γ.ty t with
 | some (.ptr l s off), some (.int sk _ k), some ti => match ti.desc with
   | .array len el => match Γ.ty el with
     | some te => match need sk (0 ≤ k ∧ k < len) with
       | some ob => some (withO (.ptr l (s && sk) (off + k.toNat * te.size)) ob)
       | none => none
     | none => none
   | _ => none
 | some (.slc l s off len _), some (.int sk _ k), some ti => match ti.desc with
   | .slice el => match Γ.ty el with
     | some te => match need (s && sk) (0 ≤ k ∧ k < len) with
       | some ob => some (withO (.ptr l (s && sk) (off + k.toNat * te.size)) ob)
       | none => none
     | none => none
   | _ => none
 | some (.slcR l off len _), some (.int sk _ k), some ti => match ti.desc with
   | .slice el => match Γ.ty el with
     | some te => match need sk (0 ≤ k ∧ k < len) with
       | some ob => some (withO (.ptr l sk (off + k.toNat * te.size)) ob)
       | none => none
     | none => none
   | _ => none
 | some (.slk _ n _ sz j le), some (.int _ _ k), some ti => match ti.desc with
   | .slice el => match Γ.ty el with
     | some te => match Nat.beq te.size sz with
       | true => some (withO (.ptr le true 0) [0 ≤ k ∧ k < n ∧ k.toNat = j])
       | false => none
     | none => none
   | _ => none
 | some (.ros l n), some (.int _ _ k), some ti => match ti.desc with
   | .slice el => match Γ.ty el with
     | some te => match Nat.beq te.size 1 with
       | true => some (withO (.bptr l k.toNat) [0 ≤ k ∧ k < n])
       | false => none
     | none => none
   | _ => none
 | _, _, _ => none
theorem eIndexAddr_ok (hty : TyOK P Γ) (ht : TmpOK V g a) (hg : GlobOK Γ V) (hT : TabOK w0 M V T w) {t : TypeId} {x y : Operand} (hop : o.op = .indexAddr t x y) (he : eIndexAddr Γ g t x y = some e) (ho : ∀ q ∈ e.obl, q) (lab : Nat) : Sim P w0 M V T lab e o a w := by
 unfold eIndexAddr at he
 split at he
 ·rename_i l s off sk kk k ti hx hy hti
  split at he
  ·rename_i len el hd
   split at he
   ·rename_i te hte
    split at he
    ·rename_i ob hob
     simp only [withO, Option.some.injEq] at he
     subst he
     have hb := need_ok hob ho
     have ex := ev_ok ht hg hx
     have ey := ev_ok ht hg hy
     simp only [den, Option.map_eq_some_iff, Option.some.injEq] at ex ey
     obtain ⟨⟨b, base⟩, hβ, ex⟩ := ex
     obtain ⟨_, i, z, hi, hisz, _⟩ := hty el te hte
     have hu := (hty t ti hti).1
     rw [hd] at hu
     refine sim_pure (x := .pointer (some ⟨b, base + (off + k.toNat * te.size), none⟩)) ?_ (by simp [den, hβ]) rfl rfl hT
     unfold execOp
     simp only [hop, ← ex, ← ey, Instr.indexAt, asIntOf, Sem.run_bind, Sem.run_pure, run_underlying hu w, Result.andThen_ok, Instr.sureAddr, if_pos hb, run_sizeOf hi, hisz, add_addr, Nat.add_assoc]
    ·cases he
   ·cases he
  ·cases he
 ·rename_i l s off len cap sk kk k ti hx hy hti
  split at he
  ·rename_i el hd
   split at he
   ·rename_i te hte
    split at he
    ·rename_i ob hob
     simp only [withO, Option.some.injEq] at he
     subst he
     have hb := need_ok hob ho
     have ex := ev_ok ht hg hx
     have ey := ev_ok ht hg hy
     simp only [den, Option.map_eq_some_iff, Option.some.injEq] at ex ey
     obtain ⟨⟨b, base⟩, hβ, ex⟩ := ex
     obtain ⟨_, i, z, hi, hisz, _⟩ := hty el te hte
     have hu := (hty t ti hti).1
     rw [hd] at hu
     refine sim_pure (x := .pointer (some ⟨b, base + (off + k.toNat * te.size), none⟩)) ?_ (by simp [den, hβ]) rfl rfl hT
     unfold execOp
     simp only [hop, ← ex, ← ey, Instr.indexAt, asIntOf, Sem.run_bind, Sem.run_pure, run_underlying hu w, Result.andThen_ok, if_pos hb, run_sizeOf hi, hisz, add_addr, Nat.add_assoc]
    ·cases he
   ·cases he
  ·cases he
 ·rename_i l off len lo sk kk k ti hx hy hti
  split at he
  ·rename_i el hd
   split at he
   ·rename_i te hte
    split at he
    ·rename_i ob hob
     simp only [withO, Option.some.injEq] at he
     subst he
     have hb := need_ok hob ho
     have ex := ev_ok ht hg hx
     have ey := ev_ok ht hg hy
     simp only [den, Option.map_eq_some_iff, Option.bind_eq_some_iff, Option.some.injEq] at ex ey
     obtain ⟨⟨b, base⟩, hβ, c, _, ex⟩ := ex
     obtain ⟨_, i, z, hi, hisz, _⟩ := hty el te hte
     have hu := (hty t ti hti).1
     rw [hd] at hu
     refine sim_pure (x := .pointer (some ⟨b, base + (off + k.toNat * te.size), none⟩)) ?_ (by simp [den, hβ]) rfl rfl hT
     unfold execOp
     simp only [hop, ← ex, ← ey, Instr.indexAt, asIntOf, Sem.run_bind, Sem.run_pure, run_underlying hu w, Result.andThen_ok, if_pos hb, run_sizeOf hi, hisz, add_addr, Nat.add_assoc]
    ·cases he
   ·cases he
  ·cases he
 ·rename_i l n cap0 sz j le kk0 kk k ti hx hy hti
  split at he
  ·rename_i el hd
   split at he
   ·rename_i te hte
    split at he
    ·rename_i hs1
     have hs1 := Nat.eq_of_beq_eq_true hs1
     simp only [withO, Option.some.injEq] at he
     subst he
     obtain ⟨hb1, hb2, hb3⟩ : 0 ≤ k ∧ k < n ∧ k.toNat = j := ho _ (by simp)
     have ex := ev_ok ht hg hx
     have ey := ev_ok ht hg hy
     simp only [den, Option.bind_eq_some_iff, Option.some.injEq] at ex ey
     obtain ⟨⟨b, base⟩, hβ, q, hq, ex⟩ := ex
     split at ex
     case h_2 => cases ex
     rename_i hdq
     have hdq := of_decide_eq_true hdq
     simp only [Option.some.injEq] at ex
     subst hdq
     obtain ⟨_, i, z, hi, hisz, _⟩ := hty el te hte
     have hu := (hty t ti hti).1
     rw [hd] at hu
     refine sim_pure (x := .pointer (some ⟨b, base + (k.toNat * te.size), none⟩)) ?_ (by simp [den, hq, hb3, hs1]) rfl rfl hT
     unfold execOp
     simp only [hop, ← ex, ← ey, Instr.indexAt, asIntOf, Sem.run_bind, Sem.run_pure, run_underlying hu w, Result.andThen_ok, if_pos (show 0 ≤ k ∧ k < (n : Int) from ⟨hb1, hb2⟩), run_sizeOf hi, hisz, add_addr]
    ·cases he
   ·cases he
  ·cases he
 ·rename_i l n kk0 kk k ti hx hy hti
  split at he
  ·rename_i el hd
   split at he
   ·rename_i te hte
    split at he
    ·rename_i hs1
     have hs1 := Nat.eq_of_beq_eq_true hs1
     simp only [withO, Option.some.injEq] at he
     subst he
     have hb : 0 ≤ k ∧ k < n := ho _ (by simp)
     have ex := ev_ok ht hg hx
     have ey := ev_ok ht hg hy
     simp only [den, Option.bind_eq_some_iff, Option.some.injEq] at ex ey
     obtain ⟨v, hσ, ex⟩ := ex
     obtain ⟨exv, hv⟩ := rosV_ok ex
     rcases hv with ⟨_, h0⟩ | ⟨b, base, c, rfl, _⟩
     ·omega
     obtain ⟨_, i, z, hi, hisz, _⟩ := hty el te hte
     have hu := (hty t ti hti).1
     rw [hd] at hu
     refine sim_pure (x := .pointer (some ⟨b, base + k.toNat * te.size, none⟩)) ?_ (by simp [den, hσ, add_addr, hs1]) rfl rfl hT
     unfold execOp
     simp only [hop, exv, ← ey, Instr.indexAt, asIntOf, Sem.run_bind, Sem.run_pure, run_underlying hu w, Result.andThen_ok, if_pos hb, run_sizeOf hi, hisz, add_addr]
    ·cases he
   ·cases he
  ·cases he
 ·cases he
def eFieldV (Γ : Env) (g : Nat → Option SV) (t : TypeId) (x : Operand) (n : Nat) : Option Eff :=
 match ev Γ g x, Γ.ty t with
 | some (.agg cs), some ti => match ti.desc with
   | .struct fs => match fs.toList[n]? with
     | some f => match Γ.ty f.type with
       | some tf => match aggD tf.desc with
         | true => lit (.agg ((cs.drop f.offset).take tf.size))
         | false => (cs[f.offset]?).bind lit
       | none => none
     | none => none
   | _ => none
 | _, _ => none
theorem extract_list {α : Type} (l : List α) (i j : Nat) : l.toArray.extract i (i + j) = ((l.drop i).take j).toArray := by
 apply Array.ext'
 simp [List.extract_eq_take_drop]
theorem eFieldV_ok (hty : TyOK P Γ) (ht : TmpOK V g a) (hg : GlobOK Γ V) (hT : TabOK w0 M V T w) {t : TypeId} {x : Operand} {n : Nat} (hop : o.op = .field t x n) (he : eFieldV Γ g t x n = some e) (lab : Nat) : Sim P w0 M V T lab e o a w := by
 unfold eFieldV at he
 split at he
 ·rename_i cs ti hx hti
  split at he
  ·rename_i fs hfs
   split at he
   ·rename_i f hf
    split at he
    ·rename_i tf htf
     have ex := ev_ok ht hg hx
     simp only [den, Option.map_eq_some_iff] at ex
     obtain ⟨xs, hxs, ex⟩ := ex
     obtain ⟨huf, i, z, hi, hisz, _⟩ := hty f.type tf htf
     have hu := (hty t ti hti).1
     rw [hfs] at hu
     have hf' : fs[n]? = some f := by rw [← Array.getElem?_toList]; exact hf
     split at he
     ·rename_i hagg
      simp only [lit, Option.some.injEq] at he
      subst he
      refine sim_pure (x := .agg ((xs.drop f.offset).take tf.size).toArray) ?_ (by simp [den, denL_take _ (denL_drop _ hxs)]) rfl rfl hT
      unfold execOp
      simp only [hop, ← ex, Instr.field, Sem.run_bind, run_underlying hu w, Result.andThen_ok, hf', asAgg, Sem.run_pure, part, run_isAgg huf, hagg, if_true, run_sizeOf hi, hisz, extract_list]
     ·rename_i hagg
      simp only [Option.bind_eq_some_iff, lit, Option.some.injEq] at he
      obtain ⟨v, hv, rfl⟩ := he
      obtain ⟨y, hy, hdy⟩ := denL_get hxs _ v hv
      refine sim_pure (x := y) ?_ hdy rfl rfl hT
      have hy' : xs.toArray[f.offset]? = some y := by simpa using hy
      unfold execOp
      simp only [hop, ← ex, Instr.field, Sem.run_bind, run_underlying hu w, Result.andThen_ok, hf', asAgg, Sem.run_pure, part, run_isAgg huf, hagg, Bool.false_eq_true, if_false, hy']
    ·cases he
   ·cases he
  ·cases he
 ·cases he
def eIndexV (Γ : Env) (g : Nat → Option SV) (t : TypeId) (x y : Operand) : Option Eff :=
 match ev Γ g x, ev Γ g y, Γ.ty t with
 | some (.agg cs), some (.int true _ k), some ti => match ti.desc with
   | .array len el => match Γ.ty el with
     | some te => match decide (0 ≤ k ∧ k < len), aggD te.desc with
       | true, true => lit (.agg ((cs.drop (k.toNat * te.size)).take te.size))
       | true, false => (cs[k.toNat * te.size]?).bind lit
       | _, _ => none
     | none => none
   | _ => none
 | some (.raw (.string s)), some (.int true _ k), some ti => match ti.desc, decide (0 ≤ k), s[k.toNat]? with
   | .string, true, some b => lit (.int true .u8 b.toNat)
   | _, _, _ => none
 | _, _, _ => none
theorem eIndexV_ok (hty : TyOK P Γ) (ht : TmpOK V g a) (hg : GlobOK Γ V) (hT : TabOK w0 M V T w) {t : TypeId} {x y : Operand} (hop : o.op = .index t x y) (he : eIndexV Γ g t x y = some e) (lab : Nat) : Sim P w0 M V T lab e o a w := by
 unfold eIndexV at he
 split at he
 ·rename_i cs kk k ti hx hy hti
  split at he
  ·rename_i len el hd
   split at he
   ·rename_i te hte
    have ex := ev_ok ht hg hx
    have ey := ev_ok ht hg hy
    simp only [den, Option.map_eq_some_iff, Option.some.injEq] at ex ey
    obtain ⟨xs, hxs, ex⟩ := ex
    obtain ⟨hue, i, z, hi, hisz, _⟩ := hty el te hte
    have hu := (hty t ti hti).1
    rw [hd] at hu
    split at he
    ·rename_i hb hagg
     have hb' := of_decide_eq_true hb
     simp only [lit, Option.some.injEq] at he
     subst he
     refine sim_pure (x := .agg ((xs.drop (k.toNat * te.size)).take te.size).toArray) ?_ (by simp [den, denL_take _ (denL_drop _ hxs)]) rfl rfl hT
     unfold execOp
     simp only [hop, ← ex, ← ey, Instr.index, asIntOf, Sem.run_bind, Sem.run_pure, run_underlying hu w, Result.andThen_ok, if_pos hb', part, run_isAgg hue, hagg, if_true, run_sizeOf hi, hisz, extract_list]
    ·rename_i hb hagg
     have hb' := of_decide_eq_true hb
     simp only [Option.bind_eq_some_iff, lit, Option.some.injEq] at he
     obtain ⟨v, hv, rfl⟩ := he
     obtain ⟨u, hu', hdu⟩ := denL_get hxs _ v hv
     refine sim_pure (x := u) ?_ hdu rfl rfl hT
     have hy' : xs.toArray[k.toNat * te.size]? = some u := by simpa using hu'
     unfold execOp
     simp only [hop, ← ex, ← ey, Instr.index, asIntOf, Sem.run_bind, Sem.run_pure, run_underlying hu w, Result.andThen_ok, if_pos hb', part, run_isAgg hue, hagg, Bool.false_eq_true, if_false, run_sizeOf hi, hisz, hy']
    ·cases he
   ·cases he
  ·cases he
 ·rename_i s kk k ti hx hy hti
  split at he
  ·rename_i b hd hk hb
   have hk' := of_decide_eq_true hk
   have ex := ev_ok ht hg hx
   have ey := ev_ok ht hg hy
   simp only [den, Option.some.injEq] at ex ey
   have hu := (hty t ti hti).1
   rw [hd] at hu
   simp only [lit, Option.some.injEq] at he
   subst he
   refine sim_pure (x := .int .u8 b.toNat) ?_ rfl rfl rfl hT
   unfold execOp
   simp only [hop, ← ex, ← ey, Instr.index, asIntOf, Sem.run_bind, Sem.run_pure, run_underlying hu w, Result.andThen_ok, if_pos hk', hb]
  ·cases he
 ·cases he
def eLen (Γ : Env) (T : Tab) (d : TypeDesc) (v : SV) : Option Eff :=
 match d, v with
 | .slice _, .slc _ s _ len _ => lit (.int s .i64 len)
 | .slice _, .raw (.slice _ n _) => lit (.int true .i64 n)
 | .slice _, .slcR _ _ len _ => lit (.int true .i64 len)
 | .slice _, .buf l => match T l with
   | some (.rowi _ xs _) => lit (.int false .i64 xs.length)
   | some (.rowx _ n _) => lit (.int false .i64 n)
   | some (.rowp xs _) => lit (.int false .i64 xs.length)
   | some (.rop xs) => lit (.int false .i64 xs.length)
   | _ => none
 | .slice _, .bslc _ lo hi => lit (.int false .i64 ((hi - lo : Nat) : Int))
 | .slice _, .ros _ n => lit (.int false .i64 n)
 | .slice _, .rsl _ n => lit (.int false .i64 n)
 | .slice _, .rse _ _ n => lit (.int false .i64 n)
 | .slice _, .slk _ n _ _ _ _ => lit (.int false .i64 n)
 | .array n _, _ => lit (.int true .i64 n)
 | .pointer el, _ => match Γ.ty el with
   | some te => match te.desc with
     | .array n _ => lit (.int true .i64 n)
     | _ => none
   | none => none
 | .string, .raw (.string s) => lit (.int true .i64 s.size)
 | _, _ => none
theorem ownsRow_len {ty : TypeId} {sz n : Nat} {v : Value} {cs : List Value} (h : w.ownsRow 0 ty sz v n cs) : ∃ b c, v = .slice b n c := by
 rcases h.2 with ⟨rfl, rfl⟩ | ⟨gb, cap, cur, rfl, _⟩
 ·exact ⟨_, _, rfl⟩
 ·exact ⟨_, _, rfl⟩
theorem eLen_ok (hty : TyOK P Γ) {T' : Tab} (hsub : ∀ l B, T' l = some B → T l = some B) (hT : TabOK w0 M V T w) {ats : Array TypeId} {t ty : TypeId} {d : TypeDesc} {v : SV} {x : Value} (hat : ats[0]? = some t) (hu : P.underlying t = some d)
  (hv : den V v = some x) (he : eLen Γ T' d v = some e) : ∃ y, (Builtin.len_ ats ty #[x]).run P w = .ok y w ∧ den V e.val = some y ∧ e.new = [] ∧ e.wr = [] := by
 unfold eLen at he
 split at he
 ·simp only [lit, Option.some.injEq] at he
  subst he
  simp only [den, Option.map_eq_some_iff] at hv
  obtain ⟨p, _, rfl⟩ := hv
  exact ⟨_, by simp [Builtin.len_, hat, run_underlying hu w]; rfl, rfl, rfl, rfl⟩
 ·simp only [lit, Option.some.injEq] at he
  subst he
  simp only [den, Option.some.injEq] at hv
  subst hv
  exact ⟨_, by simp [Builtin.len_, hat, run_underlying hu w]; rfl, rfl, rfl, rfl⟩
 ·simp only [lit, Option.some.injEq] at he
  subst he
  simp only [den, Option.map_eq_some_iff, Option.bind_eq_some_iff] at hv
  obtain ⟨p, _, c, _, rfl⟩ := hv
  exact ⟨_, by simp [Builtin.len_, hat, run_underlying hu w]; rfl, rfl, rfl, rfl⟩
 ·split at he
  ·rename_i l _ k xs ty hB
   simp only [lit, Option.some.injEq] at he
   subst he
   obtain ⟨cs, hc, u, hσ, hrow⟩ := hT.ok l _ (hsub l _ hB)
   simp only [den, hσ, Option.some.injEq] at hv
   subst hv
   obtain ⟨b, c, rfl⟩ := ownsRow_len hrow
   exact ⟨_, by simp [Builtin.len_, hat, run_underlying hu w]; rfl, rfl, rfl, rfl⟩
  ·rename_i l _ sz n ty hB
   simp only [lit, Option.some.injEq] at he
   subst he
   obtain ⟨cs, hc, u, us, hσ, hrow, _⟩ := hT.ok l _ (hsub l _ hB)
   simp only [den, hσ, Option.some.injEq] at hv
   subst hv
   rcases hrow.2 with ⟨rfl, rfl⟩ | ⟨g, cap, cur, rfl, _⟩
   ·exact ⟨_, by simp [Builtin.len_, hat, run_underlying hu w]; rfl, rfl, rfl, rfl⟩
   ·exact ⟨_, by simp [Builtin.len_, hat, run_underlying hu w]; rfl, rfl, rfl, rfl⟩
  ·rename_i l _ xs ty hB
   simp only [lit, Option.some.injEq] at he
   subst he
   obtain ⟨cs, hc, u, hσ, hrow⟩ := hT.ok l _ (hsub l _ hB)
   simp only [den, hσ, Option.some.injEq] at hv
   subst hv
   obtain ⟨b, c, rfl⟩ := ownsRow_len hrow
   exact ⟨_, by simp [Builtin.len_, hat, run_underlying hu w]; rfl, rfl, rfl, rfl⟩
  ·rename_i l _ xs hB
   simp only [lit, Option.some.injEq] at he
   subst he
   obtain ⟨cs, hc, u, hσ, hrow⟩ := hT.ok l _ (hsub l _ hB)
   simp only [den, hσ, Option.some.injEq] at hv
   subst hv
   rcases hrow with ⟨⟨ad, rfl⟩, rfl⟩ | ⟨b, o, c, rfl, _⟩
   ·exact ⟨_, by simp [Builtin.len_, hat, run_underlying hu w]; rfl, rfl, rfl, rfl⟩
   ·exact ⟨_, by simp [Builtin.len_, hat, run_underlying hu w]; rfl, rfl, rfl, rfl⟩
  ·cases he
 ·simp only [lit, Option.some.injEq] at he
  subst he
  simp only [den] at hv
  split at hv
  ·cases hv
   exact ⟨_, by simp [Builtin.len_, hat, run_underlying hu w]; rfl, rfl, rfl, rfl⟩
  ·cases hv
 ·simp only [lit, Option.some.injEq] at he
  subst he
  simp only [den, Option.bind_eq_some_iff] at hv
  obtain ⟨v, _, hv⟩ := hv
  obtain ⟨rfl, ⟨⟨_, rfl⟩, rfl⟩ | ⟨b, o, c, rfl, _⟩⟩ := rosV_ok hv
  ·exact ⟨_, by simp [Builtin.len_, hat, run_underlying hu w]; rfl, rfl, rfl, rfl⟩
  ·exact ⟨_, by simp [Builtin.len_, hat, run_underlying hu w]; rfl, rfl, rfl, rfl⟩
 ·simp only [lit, Option.some.injEq] at he
  subst he
  simp only [den, Option.bind_eq_some_iff] at hv
  obtain ⟨v, _, hv⟩ := hv
  unfold rslV at hv
  split at hv
  case h_2 => cases hv
  simp only [Option.bind_eq_some_iff] at hv
  obtain ⟨u, _, hv⟩ := hv
  obtain ⟨rfl, ⟨⟨_, rfl⟩, rfl⟩ | ⟨b, o, c, rfl, _⟩⟩ := rosV_ok hv
  ·exact ⟨_, by simp [Builtin.len_, hat, run_underlying hu w]; rfl, rfl, rfl, rfl⟩
  ·exact ⟨_, by simp [Builtin.len_, hat, run_underlying hu w]; rfl, rfl, rfl, rfl⟩
 ·simp only [lit, Option.some.injEq] at he
  subst he
  simp only [den, Option.bind_eq_some_iff] at hv
  obtain ⟨v, _, hv⟩ := hv
  unfold rseV at hv
  split at hv
  case h_2 => cases hv
  simp only [Option.bind_eq_some_iff] at hv
  obtain ⟨u, _, hv⟩ := hv
  obtain ⟨rfl, ⟨⟨_, rfl⟩, rfl⟩ | ⟨b, o, c, rfl, _⟩⟩ := rosV_ok hv
  ·exact ⟨_, by simp [Builtin.len_, hat, run_underlying hu w]; rfl, rfl, rfl, rfl⟩
  ·exact ⟨_, by simp [Builtin.len_, hat, run_underlying hu w]; rfl, rfl, rfl, rfl⟩
 ·simp only [lit, Option.some.injEq] at he
  subst he
  simp only [den, Option.bind_eq_some_iff] at hv
  obtain ⟨p, _, q, _, hv⟩ := hv
  split at hv
  case h_2 => cases hv
  cases hv
  exact ⟨_, by simp [Builtin.len_, hat, run_underlying hu w]; rfl, rfl, rfl, rfl⟩
 ·simp only [lit, Option.some.injEq] at he
  subst he
  exact ⟨_, by simp [Builtin.len_, hat, run_underlying hu w]; rfl, rfl, rfl, rfl⟩
 ·split at he
  ·rename_i el _ te hte
   split at he
   ·rename_i n el' hd
    simp only [lit, Option.some.injEq] at he
    subst he
    have hu2 := (hty el te hte).1
    rw [hd] at hu2
    exact ⟨_, by simp [Builtin.len_, hat, run_underlying hu w, run_underlying hu2 w]; rfl, rfl, rfl, rfl⟩
   ·cases he
  ·cases he
 ·simp only [lit, Option.some.injEq] at he
  subst he
  simp only [den, Option.some.injEq] at hv
  subst hv
  exact ⟨_, by simp [Builtin.len_, hat, run_underlying hu w]; rfl, rfl, rfl, rfl⟩
 ·cases he
def eCap (v : SV) : Option Eff :=
 match v with
 | .slc _ s _ _ cap => lit (.int s .i64 cap)
 | .raw (.slice _ _ n) => lit (.int true .i64 n)
 | _ => none
theorem eCap_ok {ats : Array TypeId} {t ty el : TypeId} {v : SV} {x : Value} (hat : ats[0]? = some t) (hu : P.underlying t = some (.slice el)) (hv : den V v = some x) (he : eCap v = some e) :
  ∃ y, (Builtin.cap_ ats ty #[x]).run P w = .ok y w ∧ den V e.val = some y ∧ e.new = [] ∧ e.wr = [] := by
 unfold eCap at he
 split at he
 ·simp only [lit, Option.some.injEq] at he
  subst he
  simp only [den, Option.map_eq_some_iff] at hv
  obtain ⟨p, _, rfl⟩ := hv
  exact ⟨_, by simp [Builtin.cap_, hat, run_underlying hu w]; rfl, rfl, rfl, rfl⟩
 ·simp only [lit, Option.some.injEq] at he
  subst he
  simp only [den, Option.some.injEq] at hv
  subst hv
  exact ⟨_, by simp [Builtin.cap_, hat, run_underlying hu w]; rfl, rfl, rfl, rfl⟩
 ·cases he
end Ops
end Go.Proofs.YtjomfjihopegmaaGreatDoor.Sx
end
section
open Go
namespace Go.Proofs.YtjomfjihopegmaaGreatDoor.Sx
section Ops
variable {P : Program} {Γ : Env} {V : Val} {w w0 : World} {M : Nat → Prop} {T : Tab} {g : Nat → Option SV} {a : Act} {o : Oper} {e : Eff}
def bnd (Γ : Env) (g : Nat → Option SV) (x : Option Operand) (s : Bool) (dflt : Nat) : Option (Bool × Int) :=
 match x with
 | none => some (s, dflt)
 | some x => match ev Γ g x with
   | some (.int s _ k) => some (s, k)
   | _ => none
def offS (lo : Option Operand) (m l : Int) (off size : Nat) : Nat := match lo with
 | none => off
 | some _ => if m = l then off else off + l.toNat * size
def eSlice (Γ : Env) (g : Nat → Option SV) (T : Tab) (t : TypeId) (x : Operand) (lo hi mx : Option Operand) : Option Eff :=
 match ev Γ g x, Γ.ty t with
 | some (.ptr l s off), some ti => match ti.desc with
   | .array n el => match Γ.ty el, bnd Γ g mx true n, bnd Γ g hi true n, bnd Γ g lo true 0 with
     | some te, some (sm, m), some (sh, h), some (sl, k) => match mx.isSome && hi.isNone with
       | true => none
       | false => (need (s && sm && sh && sl) (0 ≤ m ∧ m ≤ n ∧ 0 ≤ h ∧ h ≤ m ∧ 0 ≤ k ∧ k ≤ h)).map
         (withO (.slc l (s && sm && sh && sl) (offS lo m k off te.size) (h.toNat - k.toNat) (m.toNat - k.toNat)))
     | _, _, _, _ => none
   | _ => none
 | some (.slc l s off len cap), some ti => match ti.desc with
   | .slice el => match Γ.ty el, bnd Γ g mx s cap, bnd Γ g hi s len, bnd Γ g lo true 0 with
     | some te, some (sm, m), some (sh, h), some (sl, k) => match mx.isSome && hi.isNone with
       | true => none
       | false => (need (s && sm && sh && sl) (0 ≤ m ∧ m ≤ cap ∧ 0 ≤ h ∧ h ≤ m ∧ 0 ≤ k ∧ k ≤ h)).map
         (withO (.slc l (s && sm && sh && sl) (offS lo m k off te.size) (h.toNat - k.toNat) (m.toNat - k.toNat)))
     | _, _, _, _ => none
   | _ => none
 | some (.raw (.slice none 0 0)), some ti => match ti.desc with
   | .slice el => match Γ.ty el, bnd Γ g mx true 0, bnd Γ g hi true 0, bnd Γ g lo true 0 with
     | some _, some (sm, m), some (sh, h), some (sl, k) => match mx.isSome && hi.isNone with
       | true => none
       | false => (need (sm && sh && sl) (0 ≤ m ∧ m ≤ (0 : Nat) ∧ 0 ≤ h ∧ h ≤ m ∧ 0 ≤ k ∧ k ≤ h)).map (withO (.raw (.slice none 0 0)))
     | _, _, _, _ => none
   | _ => none
 | some (.slcR l off len l0), some ti => match ti.desc with
   | .slice el => match Γ.ty el, T l, bnd Γ g hi true len, bnd Γ g lo true 0 with
     | some te, some (.row sz cells _), some (true, h), some (true, k) => match Nat.beq te.size sz && Nat.blt 0 sz && Nat.beq off (l0 * sz) && Nat.ble (off + len * sz) cells.length, mx with
       | true, none => match decide (0 ≤ k ∧ k ≤ h ∧ (h ≤ len ∨ off + h.toNat * sz ≤ cells.length) ∧ (k < len ∨ k = 0)) with
         | true => some { val := .slcR l (off + k.toNat * sz) (h.toNat - k.toNat) (l0 + k.toNat) }
         | false => none
       | true, some y => match bnd Γ g (some y) true 0, hi.isSome with
         | some (true, m), true => match decide (0 ≤ k ∧ k ≤ h ∧ h ≤ m ∧ m ≤ len) with
           | true => some { val := .slc l true (offS lo m k off sz) (h.toNat - k.toNat) (m.toNat - k.toNat) }
           | false => none
         | _, _ => none
       | _, _ => none
     | _, _, _, _ => none
   | _ => none
 | some (.buf l), some ti => match ti.desc, mx with
   | .slice el, none => match Γ.ty el, T l with
     | some te, some (.rowi _ xs _) => match bnd Γ g hi false xs.length, bnd Γ g lo true 0, Nat.beq te.size 1 with
       | some (_, h), some (_, k), true => some (withO (.bslc l k.toNat h.toNat) [0 ≤ k ∧ k ≤ h ∧ h ≤ xs.length])
       | _, _, _ => none
     | _, _ => none
   | _, _ => none
 | _, _ => none
theorem run_sliceBound_ok (k : IntKind) (i : Int) (y : Nat) (code : BoundsCode) (h : 0 ≤ i ∧ i ≤ y) : (Instr.sliceBound (.int k i) y code).run P w = .ok i.toNat w := by
 simp [Instr.sliceBound, asIntOf, h]
theorem bnd_ok (ht : TmpOK V g a) (hg : GlobOK Γ V) {x : Option Operand} {s sb : Bool} {d : Nat} {n : Int} (h : bnd Γ g x s d = some (sb, n)) :
  (x = none ∧ n = d) ∨ ∃ y k, x = some y ∧ a.eval y = .int k n := by
 unfold bnd at h
 split at h
 ·simp only [Option.some.injEq, Prod.mk.injEq] at h; exact .inl ⟨rfl, h.2.symm⟩
 ·rename_i y
  split at h
  ·rename_i s' k n' hy
   simp only [Option.some.injEq, Prod.mk.injEq] at h
   obtain ⟨rfl, rfl⟩ := h
   have := ev_ok ht hg hy
   simp only [den, Option.some.injEq] at this
   exact .inr ⟨y, k, rfl, this.symm⟩
  ·cases h
theorem run_boundsV (isS : Bool) (len cap : Nat) {lo hi mx : Option Value} {m h k : Int}
  (hm : (mx = none ∧ m = cap) ∨ ∃ kk, mx = some (.int kk m)) (hh : (hi = none ∧ h = len) ∨ ∃ kk, hi = some (.int kk h))
  (hl : (lo = none ∧ k = (0 : Nat)) ∨ ∃ kk, lo = some (.int kk k)) (hx : (mx.isSome && hi.isNone) = false) (hb : 0 ≤ m ∧ m ≤ cap ∧ 0 ≤ h ∧ h ≤ m ∧ 0 ≤ k ∧ k ≤ h) :
  (Instr.sliceBounds isS len cap lo hi mx).run P w = .ok (k.toNat, h.toNat, m.toNat) w := by
 obtain ⟨h1, h2, h3, h4, h5, h6⟩ := hb
 rcases hm with ⟨rfl, rfl⟩ | ⟨km, rfl⟩ <;> rcases hh with ⟨rfl, rfl⟩ | ⟨kh, rfl⟩ <;> rcases hl with ⟨rfl, rfl⟩ | ⟨kl, rfl⟩
 ·simp [Instr.sliceBounds]
 ·simp only [Instr.sliceBounds, Sem.run_bind, Sem.run_pure, Result.andThen_ok]
  rw [run_sliceBound_ok _ _ _ _ (by omega)]; simp
 ·simp only [Instr.sliceBounds, Sem.run_bind, Sem.run_pure, Result.andThen_ok]
  rw [run_sliceBound_ok _ _ _ _ (by omega)]; simp
 ·simp only [Instr.sliceBounds, Sem.run_bind, Sem.run_pure, Result.andThen_ok]
  rw [run_sliceBound_ok _ _ _ _ (by omega)]
  simp only [Result.andThen_ok]
  rw [run_sliceBound_ok _ _ _ _ (by omega)]; simp
 ·simp at hx
 ·simp at hx
 ·simp only [Instr.sliceBounds, Sem.run_bind, Sem.run_pure, Result.andThen_ok]
  rw [run_sliceBound_ok _ _ _ _ (by omega)]
  simp only [Result.andThen_ok]
  rw [run_sliceBound_ok _ _ _ _ (by omega)]; simp
 ·simp only [Instr.sliceBounds, Sem.run_bind, Sem.run_pure]
  rw [run_sliceBound_ok _ _ _ _ (by omega)]
  simp only [Result.andThen_ok]
  rw [run_sliceBound_ok _ _ _ _ (by omega)]
  simp only [Result.andThen_ok]
  rw [run_sliceBound_ok _ _ _ _ (by omega)]; simp
theorem run_bounds (isS : Bool) (len cap : Nat) {lo hi mx : Option Operand} {m h k : Int}
  (hm : (mx = none ∧ m = cap) ∨ ∃ y kk, mx = some y ∧ a.eval y = .int kk m) (hh : (hi = none ∧ h = len) ∨ ∃ y kk, hi = some y ∧ a.eval y = .int kk h)
  (hl : (lo = none ∧ k = (0 : Nat)) ∨ ∃ y kk, lo = some y ∧ a.eval y = .int kk k) (hx : (mx.isSome && hi.isNone) = false) (hb : 0 ≤ m ∧ m ≤ cap ∧ 0 ≤ h ∧ h ≤ m ∧ 0 ≤ k ∧ k ≤ h) :
  (Instr.sliceBounds isS len cap (lo.map a.eval) (hi.map a.eval) (mx.map a.eval)).run P w = .ok (k.toNat, h.toNat, m.toNat) w := by
 refine run_boundsV isS len cap ?_ ?_ ?_ (by simpa using hx) hb
 ·rcases hm with ⟨rfl, e⟩ | ⟨y, kk, rfl, e⟩
  ·exact .inl ⟨rfl, e⟩
  ·exact .inr ⟨kk, by rw [Option.map_some, e]⟩
 ·rcases hh with ⟨rfl, e⟩ | ⟨y, kk, rfl, e⟩
  ·exact .inl ⟨rfl, e⟩
  ·exact .inr ⟨kk, by rw [Option.map_some, e]⟩
 ·rcases hl with ⟨rfl, e⟩ | ⟨y, kk, rfl, e⟩
  ·exact .inl ⟨rfl, e⟩
  ·exact .inr ⟨kk, by rw [Option.map_some, e]⟩
theorem eSlice_ok (hty : TyOK P Γ) (ht : TmpOK V g a) (hg : GlobOK Γ V) {T' : Tab} (hsub : ∀ l B, T' l = some B → T l = some B) (hT : TabOK w0 M V T w) {t : TypeId} {x : Operand} {lo hi mx : Option Operand} (hop : o.op = .slice t x lo hi mx)
  (he : eSlice Γ g T' t x lo hi mx = some e) (ho : ∀ q ∈ e.obl, q) (lab : Nat) : Sim P w0 M V T lab e o a w := by
 unfold eSlice at he
 split at he
 ·rename_i l s off ti hx hti
  split at he
  ·rename_i n el hd
   split at he
   ·rename_i te sm m sh h sl k hte hm hh hl
    split at he
    ·cases he
    ·rename_i hxx
     simp only [Option.map_eq_some_iff] at he
     obtain ⟨ob, hob, rfl⟩ := he
     have hb := need_ok hob ho
     have ex := ev_ok ht hg hx
     simp only [den, Option.map_eq_some_iff] at ex
     obtain ⟨⟨b, base⟩, hβ, ex⟩ := ex
     have hu := (hty t ti hti).1
     rw [hd] at hu
     obtain ⟨_, i, z, hi', hisz, _⟩ := hty el te hte
     have hr := run_bounds (P := P) (w := w) (a := a) false n n (bnd_ok ht hg hm) (bnd_ok ht hg hh) (bnd_ok ht hg hl) hxx hb
     refine sim_pure (x := .slice (some ⟨b, base + offS lo m k off te.size, none⟩) (h.toNat - k.toNat) (m.toNat - k.toNat)) ?_ (by simp [withO, den, hβ]) rfl rfl hT
     have hoff : (if m.toNat = k.toNat then (⟨b, base + off, none⟩ : Addr) else (⟨b, base + off, none⟩ : Addr).add (k.toNat * i.size)) = ⟨b, base + offS lo m k off te.size, none⟩ := by
      unfold offS
      cases lo with
      | none =>
        simp only [bnd, Option.some.injEq, Prod.mk.injEq] at hl
        obtain ⟨_, rfl⟩ := hl
        split
        ·rfl
        ·rw [add_addr]; simp
      | some y =>
        have e1 : (m.toNat = k.toNat) ↔ m = k := by omega
        by_cases hmk : m = k
        ·simp only [if_pos (e1.2 hmk), if_pos hmk]
        ·simp only [if_neg (fun q => hmk (e1.1 q)), if_neg hmk]; rw [add_addr, hisz, Nat.add_assoc]
     unfold execOp
     simp only [hop, ← ex, Instr.sliceAt, Sem.run_bind, run_underlying hu w, Result.andThen_ok, Instr.sureAddr, Sem.run_pure, hr, run_sizeOf hi', hoff]
   ·cases he
  ·cases he
 ·rename_i l s off len cap ti hx hti
  split at he
  ·rename_i el hd
   split at he
   ·rename_i te sm m sh h sl k hte hm hh hl
    split at he
    ·cases he
    ·rename_i hxx
     simp only [Option.map_eq_some_iff] at he
     obtain ⟨ob, hob, rfl⟩ := he
     have hb := need_ok hob ho
     have ex := ev_ok ht hg hx
     simp only [den, Option.map_eq_some_iff] at ex
     obtain ⟨⟨b, base⟩, hβ, ex⟩ := ex
     have hu := (hty t ti hti).1
     rw [hd] at hu
     obtain ⟨_, i, z, hi', hisz, _⟩ := hty el te hte
     have hr := run_bounds (P := P) (w := w) (a := a) true len cap (bnd_ok ht hg hm) (bnd_ok ht hg hh) (bnd_ok ht hg hl) hxx hb
     refine sim_pure (x := .slice (some ⟨b, base + offS lo m k off te.size, none⟩) (h.toNat - k.toNat) (m.toNat - k.toNat)) ?_ (by simp [withO, den, hβ]) rfl rfl hT
     have hoff : (if m.toNat = k.toNat then some (⟨b, base + off, none⟩ : Addr) else (some (⟨b, base + off, none⟩ : Addr)).map (·.add (k.toNat * i.size))) = some ⟨b, base + offS lo m k off te.size, none⟩ := by
      unfold offS
      cases lo with
      | none =>
        simp only [bnd, Option.some.injEq, Prod.mk.injEq] at hl
        obtain ⟨_, rfl⟩ := hl
        split
        ·rfl
        ·rw [Option.map_some, add_addr]; simp
      | some y =>
        have e1 : (m.toNat = k.toNat) ↔ m = k := by omega
        by_cases hmk : m = k
        ·simp only [if_pos (e1.2 hmk), if_pos hmk]
        ·simp only [if_neg (fun q => hmk (e1.1 q)), if_neg hmk]; rw [Option.map_some, add_addr, hisz, Nat.add_assoc]
     unfold execOp
     simp only [hop, ← ex, Instr.sliceAt, Instr.slice, Sem.run_bind, run_underlying hu w, Result.andThen_ok, Sem.run_pure, hr, run_sizeOf hi', hoff]
   ·cases he
  ·cases he
 ·rename_i ti hx hti
  split at he
  ·rename_i el hd
   split at he
   ·rename_i te sm m sh h sl k hte hm hh hl
    split at he
    ·cases he
    ·rename_i hxx
     simp only [Option.map_eq_some_iff] at he
     obtain ⟨ob, hob, rfl⟩ := he
     have hb := need_ok hob ho
     have ex := ev_ok ht hg hx
     simp only [den, Option.some.injEq] at ex
     have hu := (hty t ti hti).1
     rw [hd] at hu
     obtain ⟨_, i, z, hi', hisz, _⟩ := hty el te hte
     have hr := run_bounds (P := P) (w := w) (a := a) true 0 0 (bnd_ok ht hg hm) (bnd_ok ht hg hh) (bnd_ok ht hg hl) hxx hb
     have e0 : m.toNat = 0 ∧ h.toNat = 0 ∧ k.toNat = 0 := by omega
     refine sim_pure (x := .slice none 0 0) ?_ rfl rfl rfl hT
     unfold execOp
     simp only [hop, ← ex, Instr.sliceAt, Instr.slice, Sem.run_bind, run_underlying hu w, Result.andThen_ok, Sem.run_pure, hr, run_sizeOf hi', e0.1, e0.2.1, e0.2.2, if_true, Nat.sub_self]
   ·cases he
  ·cases he
 ·rename_i l off len l0 ti hx hti
  split at he
  ·rename_i el hd
   split at he
   ·rename_i te sz cells ty0 h k hte hB hh hl
    have ex := ev_ok ht hg hx
    simp only [den, Option.map_eq_some_iff, Option.bind_eq_some_iff] at ex
    obtain ⟨⟨b, base⟩, hβ, c, hcap, ex⟩ := ex
    obtain ⟨cs, hcs, b', cap, cur, hβ', hσ, _, _, _, ⟨n, hn, hnc⟩, _⟩ := hT.ok l _ (hsub l _ hB)
    rw [hβ] at hβ'
    cases hβ'
    rw [hσ] at hcap
    simp only [capOf, Option.some.injEq, Int.toNat_natCast] at hcap
    subst hcap
    have hu := (hty t ti hti).1
    rw [hd] at hu
    obtain ⟨_, i, z, hi', hisz, _⟩ := hty el te hte
    have hcl := denL_length (show denL V cells = some cs from hcs)
    have hgood : (Nat.beq te.size sz && Nat.blt 0 sz && Nat.beq off (l0 * sz) && Nat.ble (off + len * sz) cells.length) = true → te.size = sz ∧ 0 < sz ∧ off = l0 * sz ∧ l0 + len ≤ cap := by
     intro hq
     simp only [Bool.and_eq_true] at hq
     obtain ⟨⟨⟨q1, q2⟩, q3⟩, q4⟩ := hq
     have q1 := Nat.eq_of_beq_eq_true q1
     have q2 : 0 < sz := by simpa [Nat.blt_eq] using q2
     have q3 := Nat.eq_of_beq_eq_true q3
     have q4 := Nat.le_of_ble_eq_true q4
     refine ⟨q1, q2, q3, Nat.le_trans ?_ hnc⟩
     rw [← hcl, hn, q3, ← Nat.add_mul] at q4
     exact Nat.le_of_mul_le_mul_right q4 q2
    split at he
    ·rename_i hq
     obtain ⟨q1, q2, q3, q4⟩ := hgood hq
     split at he
     ·rename_i hdec
      have hb0 := of_decide_eq_true hdec
      have hb : 0 ≤ k ∧ k ≤ h ∧ h ≤ ((cap - l0 : Nat) : Int) ∧ (k < len ∨ k = 0) := by
       refine ⟨hb0.1, hb0.2.1, ?_, hb0.2.2.2⟩
       rcases hb0.2.2.1 with h1 | h1
       ·omega
       ·have h2 : l0 + h.toNat ≤ cap := by
         refine Nat.le_trans ?_ hnc
         rw [← hcl, hn, q3, ← Nat.add_mul] at h1
         exact Nat.le_of_mul_le_mul_right h1 q2
        omega
      simp only [Option.some.injEq] at he
      subst he
      have hr := run_bounds (P := P) (w := w) (a := a) true len (cap - l0) (lo := lo) (hi := hi) (mx := none) (m := ((cap - l0 : Nat) : Int)) (.inl ⟨rfl, rfl⟩) (bnd_ok ht hg hh) (bnd_ok ht hg hl) rfl (by omega)
      simp only [Int.toNat_natCast] at hr
      have hoff : (if cap - l0 = k.toNat then some (⟨b, 0 + off, none⟩ : Addr) else (some (⟨b, 0 + off, none⟩ : Addr)).map (·.add (k.toNat * sz))) = some ⟨b, 0 + (off + k.toNat * sz), none⟩ := by
       by_cases hk : k.toNat = 0
       ·rw [hk]; split
        ·simp
        ·rw [Option.map_some, add_addr]; simp
       ·rw [if_neg (by omega), Option.map_some, add_addr, Nat.add_assoc]
      refine sim_pure (x := .slice (some ⟨b, 0 + (off + k.toNat * sz), none⟩) (h.toNat - k.toNat) (cap - (l0 + k.toNat))) ?_ (by simp [den, hβ, hσ, capOf]) rfl rfl hT
      unfold execOp
      simp only [hop, ← ex, Instr.sliceAt, Instr.slice, Sem.run_bind, run_underlying hu w, Result.andThen_ok, Sem.run_pure, hr, run_sizeOf hi', hisz, q1, hoff]
      rw [Nat.sub_add_eq]
     ·cases he
    ·rename_i y hq
     obtain ⟨q1, q2, q3, q4⟩ := hgood hq
     split at he
     ·rename_i m hm his
      split at he
      ·rename_i hdec
       have hb := of_decide_eq_true hdec
       simp only [Option.some.injEq] at he
       subst he
       have hm' : (some y = none ∧ m = ((cap - l0 : Nat) : Int)) ∨ ∃ y' kk, some y = some y' ∧ a.eval y' = .int kk m := by
        rcases bnd_ok ht hg hm with ⟨h1, _⟩ | h1
        ·cases h1
        ·exact .inr h1
       have hr := run_bounds (P := P) (w := w) (a := a) true len (cap - l0) (lo := lo) (hi := hi) (mx := some y) (m := m) hm' (bnd_ok ht hg hh) (bnd_ok ht hg hl) (by simpa using his) (by omega)
       have hoff : (if m.toNat = k.toNat then some (⟨b, 0 + off, none⟩ : Addr) else (some (⟨b, 0 + off, none⟩ : Addr)).map (·.add (k.toNat * sz))) = some ⟨b, 0 + offS lo m k off sz, none⟩ := by
        unfold offS
        cases lo with
        | none =>
          simp only [bnd, Option.some.injEq, Prod.mk.injEq] at hl
          obtain ⟨_, rfl⟩ := hl
          split
          ·rfl
          ·rw [Option.map_some, add_addr]; simp
        | some y =>
          have e1 : (m.toNat = k.toNat) ↔ m = k := by omega
          by_cases hmk : m = k
          ·simp only [if_pos (e1.2 hmk), if_pos hmk]
          ·simp only [if_neg (fun q => hmk (e1.1 q)), if_neg hmk]; rw [Option.map_some, add_addr, Nat.add_assoc]
       refine sim_pure (x := .slice (some ⟨b, 0 + offS lo m k off sz, none⟩) (h.toNat - k.toNat) (m.toNat - k.toNat)) ?_ (by simp [den, hβ]) rfl rfl hT
       unfold execOp
       simp only [hop, ← ex, Instr.sliceAt, Instr.slice, Sem.run_bind, run_underlying hu w, Result.andThen_ok, Sem.run_pure, hr, run_sizeOf hi', hisz, q1, hoff]
      ·cases he
     ·cases he
    ·cases he
   ·cases he
  ·cases he
 ·rename_i l ti hx hti
  split at he
  ·rename_i el hd
   split at he
   ·rename_i te k0 xs ty0 hte hB
    split at he
    ·rename_i sh h sl k hh hl hsz
     simp only [withO, Option.some.injEq] at he
     subst he
     have hb : 0 ≤ k ∧ k ≤ h ∧ h ≤ xs.length := ho _ (by simp)
     have ex := ev_ok ht hg hx
     obtain ⟨cs, hc, u, hσ, hrow⟩ := hT.ok l _ (hsub l _ hB)
     simp only [den, hσ, Option.some.injEq] at ex
     have hu := (hty t ti hti).1
     rw [hd] at hu
     obtain ⟨_, i, z, hi', hisz, _⟩ := hty el te hte
     have hsz1 : i.size = 1 := by rw [hisz]; exact Nat.eq_of_beq_eq_true hsz
     obtain ⟨A, cap, hA, hcap⟩ : ∃ A cap, u = .slice A xs.length cap ∧ xs.length ≤ cap := by
      rcases hrow.2 with ⟨rfl, h0⟩ | ⟨gb, cap, cur, rfl, _, _, hle, _⟩
      ·exact ⟨none, 0, by rw [h0], by omega⟩
      ·exact ⟨_, cap, rfl, hle⟩
     subst hA
     have hr := run_bounds (P := P) (w := w) (a := a) true xs.length cap (lo := lo) (hi := hi) (mx := none) (m := cap) (.inl ⟨rfl, rfl⟩) (bnd_ok ht hg hh) (bnd_ok ht hg hl) rfl (by omega)
     simp only [Option.map_none, Int.toNat_natCast] at hr
     refine sim_pure (x := .slice (if cap = k.toNat then A else A.map (·.add k.toNat)) (h.toNat - k.toNat) (cap - k.toNat)) ?_ (by simp [den, hσ]) rfl rfl hT
     unfold execOp
     simp only [hop, ← ex, Instr.sliceAt, Instr.slice, Sem.run_bind, run_underlying hu w, Result.andThen_ok, Sem.run_pure, hr, run_sizeOf hi', hsz1, Nat.mul_one, Option.map_none]
    ·cases he
   ·cases he
  ·cases he
 ·cases he
def eSliceR (Γ : Env) (g : Nat → Option SV) (T : Tab) (t : TypeId) (x : Operand) (lo hi mx : Option Operand) (lab : Nat) : Option Eff :=
 match ev Γ g x, Γ.ty t, mx with
 | some (.ros l n), some ti, none => match ti.desc with
   | .slice el => match Γ.ty el, T l, bnd Γ g hi false n, bnd Γ g lo true 0 with
     | some te, some (.rov k xs), some (_, h), some (_, j) => match Nat.beq te.size 1 with
       | true => some { obl := [0 ≤ j ∧ j ≤ h ∧ h ≤ n], val := .ros lab (h.toNat - j.toNat), new := [.rov k ((xs.drop j.toNat).take (h.toNat - j.toNat))] }
       | false => none
     | _, _, _, _ => none
   | _ => none
 | _, _, _ => none
theorem eSliceR_ok (hty : TyOK P Γ) (ht : TmpOK V g a) (hg : GlobOK Γ V) {T' : Tab} (hsub : ∀ l B, T' l = some B → T l = some B) (hT : TabOK w0 M V T w) {t : TypeId} {x : Operand} {lo hi mx : Option Operand} (hop : o.op = .slice t x lo hi mx) {lab : Nat} (hf : V.fresh lab)
  (he : eSliceR Γ g T' t x lo hi mx lab = some e) (ho : ∀ q ∈ e.obl, q) : Sim P w0 M V T lab e o a w := by
 unfold eSliceR at he
 split at he
 case h_2 => cases he
 rename_i l n ti hx hti
 split at he
 case h_2 => cases he
 rename_i el hd
 split at he
 case h_2 => cases he
 rename_i te k xs sh h sj j hte hB hh hj
 split at he
 case h_2 => cases he
 rename_i hs1
 have hs1 := Nat.eq_of_beq_eq_true hs1
 simp only [Option.some.injEq] at he
 subst he
 have hb : 0 ≤ j ∧ j ≤ h ∧ h ≤ n := ho _ (by simp)
 have ex := ev_ok ht hg hx
 simp only [den, Option.bind_eq_some_iff] at ex
 obtain ⟨v, hσ, ex⟩ := ex
 obtain ⟨exv, hv⟩ := rosV_ok ex
 obtain ⟨cs, hc, v', hσ', hrow⟩ := hT.ok l _ (hsub l _ hB)
 rw [hσ] at hσ'
 cases hσ'
 simp only [SB.cells, Option.some.injEq] at hc
 subst hc
 have hu := (hty t ti hti).1
 rw [hd] at hu
 obtain ⟨_, i, z, hi', hisz, _⟩ := hty el te hte
 obtain ⟨y, hy1, hy2, hy3, hy4⟩ : ∃ y : Value, (execOp a.eval o).run P w = .ok (.value y) w ∧ rosV (h.toNat - j.toNat) y = some y ∧ (∀ m, roBlk y = some m → roBlk v = some m) ∧
   ((Bare y ∧ (xs.drop j.toNat).take (h.toNat - j.toNat) = []) ∨ ∃ b o c, y = .slice (some ⟨b, o, none⟩) ((xs.drop j.toNat).take (h.toNat - j.toNat)).length c ∧ b < w.heap.size ∧ ((xs.drop j.toNat).take (h.toNat - j.toNat)).length ≤ c ∧ ∀ (i : Nat) (u : Value), (((xs.drop j.toNat).take (h.toNat - j.toNat)).map (Value.int k))[i]? = some u → w.cell? ⟨b, o + i, none⟩ = some u) := by
  rcases hrow with ⟨⟨ad, rfl⟩, rfl⟩ | ⟨b, base, c, rfl, hlt, hle, hcell⟩
  ·have hn : n = 0 := by
    rcases hv with ⟨_, h0⟩ | ⟨_, _, _, h0, _⟩
    ·exact h0
    ·injection h0 with _ h0 _; exact h0.symm
   subst hn
   have hr := run_bounds (P := P) (w := w) (a := a) true 0 0 (mx := none) (m := ((0 : Nat) : Int)) (.inl ⟨rfl, rfl⟩) (bnd_ok ht hg hh) (bnd_ok ht hg hj) rfl (by omega)
   have e0 : h.toNat = 0 ∧ j.toNat = 0 := by omega
   refine ⟨.slice ad 0 0, ?_, by cases ad <;> simp [rosV, e0.1, e0.2], fun m hm => hm, .inl ⟨⟨_, rfl⟩, by simp⟩⟩
   unfold execOp
   simp only [hop, exv, Option.map_none, Instr.sliceAt, Instr.slice, Sem.run_bind, run_underlying hu w, Result.andThen_ok, Sem.run_pure, run_sizeOf hi'] at hr ⊢
   simp only [hr, Result.andThen_ok, e0.1, e0.2, if_true, Nat.sub_self, Int.toNat_natCast]
  ·have hn : n = xs.length := by
    rcases hv with ⟨⟨_, h0⟩, h1⟩ | ⟨_, _, _, h0, _⟩
    ·injection h0 with _ h0 _; omega
    ·injection h0 with _ h0 _; exact h0.symm
   subst hn
   have hr := run_bounds (P := P) (w := w) (a := a) true xs.length c (lo := lo) (hi := hi) (mx := none) (m := (c : Int)) (h := h) (k := j) (.inl ⟨rfl, rfl⟩) (bnd_ok ht hg hh) (bnd_ok ht hg hj) rfl ⟨by omega, by omega, by omega, by omega, by omega, by omega⟩
   have hlen : ((xs.drop j.toNat).take (h.toNat - j.toNat)).length = h.toNat - j.toNat := by simp; omega
   refine ⟨.slice (if c = j.toNat then some ⟨b, base, none⟩ else some ⟨b, base + j.toNat, none⟩) (h.toNat - j.toNat) (c - j.toNat), ?_, ?_, ?_, .inr ?_⟩
   ·have hoff : (if c = j.toNat then some (⟨b, base, none⟩ : Addr) else (some (⟨b, base, none⟩ : Addr)).map (·.add (j.toNat * te.size))) = (if c = j.toNat then some ⟨b, base, none⟩ else some ⟨b, base + j.toNat, none⟩) := by
     split
     ·rfl
     ·rw [Option.map_some, add_addr, hs1, Nat.mul_one]
    unfold execOp
    simp only [hop, exv, Option.map_none, Instr.sliceAt, Instr.slice, Sem.run_bind, run_underlying hu w, Result.andThen_ok, Sem.run_pure, run_sizeOf hi'] at hr ⊢
    simp only [hr, Result.andThen_ok, hisz, Int.toNat_natCast, hoff]
   ·by_cases hcj : c = j.toNat
    ·rw [if_pos hcj]; unfold rosV; exact if_pos ⟨rfl, by omega, .inr rfl⟩
    ·rw [if_neg hcj]; unfold rosV; exact if_pos ⟨rfl, by omega, .inr rfl⟩
   ·intro m hm
    by_cases hcj : c = j.toNat
    ·rw [hcj, Nat.sub_self] at hm; cases hm
    ·rw [if_neg hcj] at hm
     obtain ⟨m', rfl⟩ : ∃ m, c = m + 1 := ⟨c - 1, by omega⟩
     exact roBlk_own hm
   ·by_cases hcj : c = j.toNat
    ·refine ⟨b, base, c - j.toNat, by rw [hlen, if_pos hcj], hlt, by omega, fun i u hi => ?_⟩
     have : h.toNat - j.toNat = 0 := by omega
     rw [this] at hi
     simp at hi
    ·refine ⟨b, base + j.toNat, c - j.toNat, by rw [hlen, if_neg hcj], hlt, by omega, fun i u hi => ?_⟩
     rw [Nat.add_assoc]
     apply hcell
     simp only [List.map_take, List.map_drop, List.getElem?_take] at hi
     split at hi
     ·rwa [List.getElem?_drop] at hi
     ·cases hi
 intro K Q hK
 unfold Oper.wp
 rw [hy1, Oper.upon_value]
 refine hK (V.putσ lab y) y w (Val.putσ_ext hf lab (Nat.le_refl _) (by omega) y) ?_ ?_
 ·simp [den, Val.putσ, hy2]
 ·refine hT.step (N := fun m => if m = lab then some (.rov k ((xs.drop j.toNat).take (h.toNat - j.toNat))) else none) (Val.putσ_ext hf lab (Nat.le_refl _) (by omega) y).1 (fun m C hm => ?_) (fun m C hm => ?_) (fun m C q hm hq => ?_) (fun m C m' C' q hne hm hm' ho2 _ => ?_) (Nat.le_refl _) (fun _ _ _ => rfl) rfl rfl rfl
  ·unfold upd Eff.tab at hm
   simp only [newL, List.nil_append, look] at hm
   by_cases e : m = lab
   ·subst e
    left
    simpa using hm
   ·right
    refine ⟨if_neg e, ?_⟩
    have : Nat.beq lab m = false := by
     cases hb2 : Nat.beq lab m with
     | false => rfl
     | true => exact absurd (Nat.eq_of_beq_eq_true hb2).symm e
    simpa [this] using hm
  ·split at hm
   ·rename_i e
    subst e
    cases hm
    exact ⟨_, rfl, y, by simp [Val.putσ], hy4⟩
   ·cases hm
  ·split at hm
   ·rename_i e
    subst e
    cases hm
    refine .inr (.inr ⟨rfl, fun l2 B2 hn2 hl2 ho2 hb2 => ?_⟩)
    simp only [SB.blk, Val.putσ, if_pos, Option.bind_some] at hq
    have hq' := hy3 q hq
    have hne : l2 ≠ l := fun e => by subst e; rw [hsub _ _ hB] at hl2; cases hl2; cases ho2
    exact hT.dist l2 B2 l _ q hne hl2 (hsub _ _ hB) ho2 hb2 (by simp [SB.blk, hσ, hq'])
   ·cases hm
  ·split at hm
   ·cases hm; cases ho2
   ·cases hm
def eSliceQ (Γ : Env) (g : Nat → Option SV) (T : Tab) (t : TypeId) (x : Operand) (lo hi mx : Option Operand) (lab : Nat) : Option Eff :=
 match ev Γ g x, Γ.ty t, lo, hi, mx with
 | some (.bptr l off), some ti, none, none, none => match ti.desc with
   | .array n el => match Γ.ty el, T l, Nat.beq off 0 with
     | some te, some (.rov k xs), true => match Nat.beq te.size 1, Nat.blt 0 n with
       | true, true => some { obl := [n ≤ xs.length], val := .ros lab n, new := [.rov k (xs.take n)] }
       | _, _ => none
     | _, _, _ => none
   | _ => none
 | _, _, _, _, _ => none
theorem eSliceQ_ok (hty : TyOK P Γ) (ht : TmpOK V g a) (hg : GlobOK Γ V) {T' : Tab} (hsub : ∀ l B, T' l = some B → T l = some B) (hT : TabOK w0 M V T w) {t : TypeId} {x : Operand} {lo hi mx : Option Operand} (hop : o.op = .slice t x lo hi mx) {lab : Nat} (hf : V.fresh lab)
  (he : eSliceQ Γ g T' t x lo hi mx lab = some e) (ho : ∀ q ∈ e.obl, q) : Sim P w0 M V T lab e o a w := by
 unfold eSliceQ at he
 split at he
 case h_2 => cases he
 rename_i l off ti hx hti
 split at he
 case h_2 => cases he
 rename_i n el hd
 split at he
 case h_2 => cases he
 rename_i te k xs hte hB hoff
 split at he
 case h_2 => cases he
 rename_i hs1 hn0
 have hs1 := Nat.eq_of_beq_eq_true hs1
 have hoff := Nat.eq_of_beq_eq_true hoff
 subst hoff
 have hn0 : 0 < n := by simpa [Nat.blt_eq] using hn0
 simp only [Option.some.injEq] at he
 subst he
 have hb : n ≤ xs.length := ho _ (by simp)
 have ex := ev_ok ht hg hx
 obtain ⟨cs, hc, v, hσ, hrow⟩ := hT.ok l _ (hsub l _ hB)
 simp only [SB.cells, Option.some.injEq] at hc
 subst hc
 simp only [den, hσ] at ex
 rcases hrow with ⟨_, rfl⟩ | ⟨b, base, c, rfl, hlt, hle, hcell⟩
 ·simp at hb; omega
 have ex : Value.pointer (some (⟨b, base, none⟩ : Addr)) = a.eval x := by
  have e0 : (⟨b, base, none⟩ : Addr).add 0 = ⟨b, base, none⟩ := by simp [Addr.add]
  rw [← e0]; simpa using ex
 have hu := (hty t ti hti).1
 rw [hd] at hu
 obtain ⟨_, i, z, hi', hisz, _⟩ := hty el te hte
 have hr := run_bounds (P := P) (w := w) (a := a) false n n (lo := none) (hi := none) (mx := none) (m := (n : Int)) (h := (n : Int)) (k := ((0 : Nat) : Int)) (.inl ⟨rfl, rfl⟩) (.inl ⟨rfl, rfl⟩) (.inl ⟨rfl, rfl⟩) rfl (by omega)
 have hml : (xs.take n).length = n := by rw [List.length_take]; omega
 intro K Q hK
 unfold Oper.wp
 have hy1 : (execOp a.eval o).run P w = .ok (.value (.slice (some ⟨b, base, none⟩) n n)) w := by
  unfold execOp
  simp only [Option.map_none] at hr
  simp only [hop, ← ex, Option.map_none, Instr.sliceAt, Sem.run_bind, run_underlying hu w, Result.andThen_ok, Instr.sureAddr, Sem.run_pure, hr, run_sizeOf hi', Int.toNat_natCast, Nat.sub_zero, Nat.zero_mul]
  have hne : ¬ n = 0 := by omega
  simp [hne, Addr.add]
 rw [hy1, Oper.upon_value]
 refine hK (V.putσ lab (.slice (some ⟨b, base, none⟩) n n)) _ w (Val.putσ_ext hf lab (Nat.le_refl _) (by omega) _) ?_ ?_
 ·simp only [den, Val.putσ, if_pos, Option.bind_some]
  unfold rosV
  exact if_pos ⟨rfl, Nat.le_refl n, .inr rfl⟩
 ·refine hT.step (N := fun m => if m = lab then some (.rov k (xs.take n)) else none) (Val.putσ_ext hf lab (Nat.le_refl _) (by omega) _).1 (fun m C hm => ?_) (fun m C hm => ?_) (fun m C q hm hq => ?_) (fun m C m' C' q hne hm hm' ho2 _ => ?_) (Nat.le_refl _) (fun _ _ _ => rfl) rfl rfl rfl
  ·unfold upd Eff.tab at hm
   simp only [newL, List.nil_append, look] at hm
   by_cases e : m = lab
   ·subst e
    left
    simpa using hm
   ·right
    refine ⟨if_neg e, ?_⟩
    have : Nat.beq lab m = false := by
     cases hb2 : Nat.beq lab m with
     | false => rfl
     | true => exact absurd (Nat.eq_of_beq_eq_true hb2).symm e
    simpa [this] using hm
  ·split at hm
   ·rename_i e
    subst e
    cases hm
    refine ⟨_, rfl, .slice (some ⟨b, base, none⟩) n n, by simp [Val.putσ], .inr ⟨b, base, n, by rw [hml], hlt, by rw [hml]; exact Nat.le_refl n, fun i u hi => ?_⟩⟩
    apply hcell
    rw [List.map_take, List.getElem?_take] at hi
    split at hi
    ·exact hi
    ·cases hi
   ·cases hm
  ·split at hm
   ·rename_i e
    subst e
    cases hm
    refine .inr (.inr ⟨rfl, fun l2 B2 hn2 hl2 ho2 hb2 => ?_⟩)
    simp only [SB.blk, Val.putσ, if_pos, Option.bind_some] at hq
    have hq' := roBlk_own hq
    have hne : l2 ≠ l := fun e => by subst e; rw [hsub _ _ hB] at hl2; cases hl2; cases ho2
    have hqb : roBlk (.slice (some ⟨b, base, none⟩) xs.length c) = some q := by
     obtain ⟨m', rfl⟩ : ∃ m, c = m + 1 := ⟨c - 1, by omega⟩
     exact hq'
    exact hT.dist l2 B2 l _ q hne hl2 (hsub _ _ hB) ho2 hb2 (by simp [SB.blk, hσ, hqb])
   ·cases hm
  ·split at hm
   ·cases hm; cases ho2
   ·cases hm
end Ops
end Go.Proofs.YtjomfjihopegmaaGreatDoor.Sx
end
section
open Go
namespace Go.Proofs.YtjomfjihopegmaaGreatDoor.Sx
section Ops
variable {P : Program} {Γ : Env} {V : Val} {w w0 : World} {M : Nat → Prop} {T : Tab} {g : Nat → Option SV} {a : Act} {o : Oper} {e : Eff}
def eMakeSlice (Γ : Env) (g : Nat → Option SV) (t : TypeId) (x y : Operand) (lab : Nat) : Option Eff :=
 match ev Γ g x, ev Γ g y, Γ.ty t with
 | some (.int sx _ n), some (.int sy _ c), some ti => match ti.desc with
   | .slice el => match Γ.ty el with
     | some te => match need (sx && sy) (0 ≤ n ∧ n ≤ c ∧ (te.bytes : Int) * c ≤ 2 ^ 48 ∧ c < 2 ^ 63) with
       | some ob => match te.zero, Nat.beq te.size 1 with
         | [.int _ k z], true => match sx && sy with
           | true => some { obl := ob, val := .slc lab true 0 n.toNat c.toNat, new := [.own (List.replicate c.toNat (.int true k z)) el] }
           | false => some { obl := ob, val := .slc lab sx 0 n.toNat c.toNat, new := [.ints k (List.replicate c.toNat z) el] }
         | _, _ => none
       | none => none
     | none => none
   | _ => none
 | _, _, _ => none
theorem wrap64_id {n : Int} (h1 : -(2 ^ 63) ≤ n) (h2 : n < 2 ^ 63) : IntKind.i64.wrap n = n := by
 have e : IntKind.i64.wrap n = if (n % 2 ^ 64 : Int) ≥ 2 ^ 63 then n % 2 ^ 64 - 2 ^ 64 else n % 2 ^ 64 := by
  simp [IntKind.wrap, IntKind.bits, IntKind.signed]
 rw [e]
 split <;> omega
theorem run_makeSlice_int {t el : TypeId} {i : TypeInfo} {u : Value} {zv : Value} {kx ky : IntKind} {n c : Int} (hu : P.underlying t = some (.slice el)) (hi : P.info? el = some i) (hz : i.zero = some zv) (hzc : zv.cells = #[u]) (hs : i.size = 1)
  (h : 0 ≤ n ∧ n ≤ c ∧ (i.bytes : Int) * c ≤ 2 ^ 48 ∧ c < 2 ^ 63) :
  (Instr.makeSlice t (.int kx n) (.int ky c)).run P w = .ok (.slice (some ⟨w.heap.size, 0, none⟩) n.toNat c.toNat) (w.alloc (.cells (List.replicate c.toNat (u)).toArray el)) := by
 obtain ⟨h1, h2, h3, h4⟩ := h
 have en : IntKind.i64.wrap n = n := wrap64_id (by omega) (by omega)
 have ec : IntKind.i64.wrap c = c := wrap64_id (by omega) (by omega)
 have hti : (typeInfo el).run P w = .ok i w := by simp [typeInfo, hi]
 have hcells : ((Array.range (c.toNat * 1)).map fun j => (#[u] : Array Value)[j % (#[u] : Array Value).size]!) = (List.replicate c.toNat (u)).toArray := by
  apply Array.ext'
  simp only [Nat.mul_one, Array.toList_map, Array.toList_range]
  apply List.ext_getElem
  ·simp
  ·intro j h1 h2
   simp [Nat.mod_one]
 have hcond : (c < 0 || (i.bytes : Int) * c > 2 ^ 48 || n < 0 || n > c) = false := by simp; omega
 unfold Instr.makeSlice
 simp only [Sem.run_bind, run_underlying hu w, Result.andThen_ok, asInt, asIntOf, Sem.run_pure, hti, en, ec, hcond, Bool.false_eq_true, if_false, run_askRoom, run_sizeOf hi, hs]
 by_cases hc0 : c.toNat * 1 = 0
 ·have : c.toNat = 0 := by omega
  simp [this, newRow, show Array.range 0 = #[] from rfl]
 ·simp only [if_neg hc0, Sem.run_bind, run_zeroValue hi hz, Result.andThen_ok, Sem.run_pure, hzc, hcells, newRow, run_newObj, World.alloc_eq]
theorem eMakeSlice_ok (hty : TyOK P Γ) (ht : TmpOK V g a) (hg : GlobOK Γ V) (hT : TabOK w0 M V T w) {t : TypeId} {x y : Operand} (hop : o.op = .makeSlice t x y) {lab : Nat} (hf : V.fresh lab) (he : eMakeSlice Γ g t x y lab = some e) (ho : ∀ q ∈ e.obl, q) : Sim P w0 M V T lab e o a w := by
 unfold eMakeSlice at he
 split at he
 ·rename_i sx kx n sy ky c ti hx hy hti
  split at he
  ·rename_i el hd
   split at he
   ·rename_i te hte
    split at he
    ·rename_i ob hob
     have ex := ev_ok ht hg hx
     have ey := ev_ok ht hg hy
     simp only [den, Option.some.injEq] at ex ey
     have hu := (hty t ti hti).1
     rw [hd] at hu
     obtain ⟨_, i, zv, hi, hisz, hby, hz, hzero⟩ := hty el te hte
     split at he
     ·rename_i sz k z hzz hsz
      have hs1 : i.size = 1 := by rw [hisz]; exact Nat.eq_of_beq_eq_true hsz
      have hzc : zv.cells = #[.int k z] := by
       have := hzero V
       rw [hzz] at this
       simp only [denL, den, Option.bind_some, Option.map_some, Option.some.injEq] at this
       rw [← Array.toList_inj, ← this]
      have hob' : ∀ q ∈ ob, q := by split at he <;> (cases he; exact ho)
      have hb := need_ok hob hob'
      rw [← hby] at hb
      have hrun := run_makeSlice_int (P := P) (w := w) (kx := kx) (ky := ky) hu hi hz hzc hs1 hb
      have hexec : (execOp a.eval o).run P w = .ok (.value (.slice (some ⟨w.heap.size, 0, none⟩) n.toNat c.toNat)) (w.alloc (.cells (List.replicate c.toNat (Value.int k z)).toArray el)) := by
       unfold execOp
       simp only [hop, ← ex, ← ey, Sem.run_bind, hrun, Result.andThen_ok, Sem.run_pure]
      intro K Q hK
      unfold Oper.wp
      rw [hexec, Oper.upon_value]
      split at he
      ·cases he
       have hc : denL V (List.replicate c.toNat (.int true k z)) = some (List.replicate c.toNat (Value.int k z)) := by
        generalize c.toNat = m
        induction m with
        | zero => simp [denL]
        | succ m ih => simp [List.replicate_succ, denL, den, ih]
       exact hK _ _ _ (Val.put_ext hf lab (Nat.le_refl _) (by omega) _) (by simp [den, Val.put]) (hT.alloc hf (B := .own _ el) (.inl rfl) hc _ _)
      ·cases he
       exact hK _ _ _ (Val.put_ext hf lab (Nat.le_refl _) (by omega) _) (by simp [den, Val.put]) (hT.alloc hf (B := .ints k _ el) (.inr (.inl rfl)) (by simp [SB.cells]) _ _)
     ·cases he
    ·cases he
   ·cases he
  ·cases he
 ·cases he
/-! ### Literals -/
theorem splice_foldl (vs : List Value) : ∀ (cells : Array Value) (off j0 : Nat), off + j0 + vs.length ≤ cells.size →
  ((vs.zipIdx j0).foldl (fun cs (p : Value × Nat) => cs.setIfInBounds (off + p.2) p.1) cells).toList = cells.toList.take (off + j0) ++ vs ++ cells.toList.drop (off + j0 + vs.length) := by
 induction vs with
 | nil => intro cells off j0 _; simp
 | cons v vs ih =>
   intro cells off j0 h
   simp only [List.length_cons] at h
   simp only [List.zipIdx_cons, List.foldl_cons]
   rw [ih (cells.setIfInBounds (off + j0) v) off (j0 + 1) (by simp; omega)]
   have e := list_seg_step cells.toList (off + j0) v vs (by simp; omega)
   simpa [Array.toList_setIfInBounds, Nat.add_assoc] using e
def fillS (T : Tab) (place : Nat → Option (Nat × Nat)) (cells : List SV) : List (Nat × SV) → Option (List SV)
 | [] => some cells
 | (i, v) :: rest => match place i with
   | none => none
   | some (off, size) => match Nat.beq (cellsOf v).length size, onesT T (cellsOf v), Nat.ble (off + (cellsOf v).length) cells.length with
     | true, true, true => fillS T place (cells.take off ++ cellsOf v ++ cells.drop (off + (cellsOf v).length)) rest
     | _, _, _ => none
theorem fillS_ok {T' : Tab} (hsub : ∀ l B, T' l = some B → T l = some B) (hT : TabOK w0 M V T w) {place : Nat → Option (Nat × Nat)} : ∀ {parts : List (Nat × SV)} {vals : List (Nat × Value)} {cells : List SV} {cs : List Value} {r : List SV},
  fillS T' place cells parts = some r → denL V cells = some cs → vals.map (·.1) = parts.map (·.1) → denL V (parts.map (·.2)) = some (vals.map (·.2)) →
  ∃ rs, Instr.fill place cs.toArray vals = some rs ∧ denL V r = some rs.toList
 | [], vals, cells, cs, r, h, hc, h1, _ => by
   simp only [fillS, Option.some.injEq] at h
   subst h
   have : vals = [] := by simpa using h1
   subst this
   exact ⟨cs.toArray, rfl, by simpa using hc⟩
 | (i, v) :: rest, vals, cells, cs, r, h, hc, h1, h2 => by
   obtain ⟨⟨i', x⟩, vals', rfl⟩ : ∃ p l, vals = p :: l := by cases vals with | nil => simp at h1 | cons p l => exact ⟨p, l, rfl⟩
   simp only [List.map_cons, List.cons.injEq] at h1
   obtain ⟨rfl, h1⟩ := h1
   simp only [List.map_cons, denL, Option.map_eq_some_iff, Option.bind_eq_some_iff] at h2
   obtain ⟨x', hx, ys, hy, h2⟩ := h2
   simp only [List.cons.injEq] at h2
   obtain ⟨rfl, rfl⟩ := h2
   simp only [fillS] at h
   split at h
   ·cases h
   ·rename_i off size hp
    split at h
    ·rename_i hsz hone hle
     have hsz' := Nat.eq_of_beq_eq_true hsz
     have hle' := Nat.le_of_ble_eq_true hle
     have hcells := cellsOf_okT hsub hT hone hx
     have hlen := denL_length hcells
     have hclen := denL_length hc
     have hnew := denL_append (denL_append (denL_take off hc) hcells) (denL_drop (off + (cellsOf v).length) hc)
     obtain ⟨rs, hrs, hd⟩ := fillS_ok hsub hT h hnew h1 hy
     refine ⟨rs, ?_, hd⟩
     have hxs : x'.cells.size = (cellsOf v).length := by rw [← hlen]; simp
     have hcond : (x'.cells.size ≠ size || off + x'.cells.size > cs.toArray.size) = false := by
      simp [hxs, hsz']; omega
     have hsp := splice_foldl x'.cells.toList cs.toArray off 0 (by simp; omega)
     have hfold : (x'.cells.zipIdx.foldl (fun cs (p : Value × Nat) => cs.setIfInBounds (off + p.2) p.1) cs.toArray) = (cs.take off ++ x'.cells.toList ++ cs.drop (off + (cellsOf v).length)).toArray := by
      apply Array.ext'
      have e : x'.cells.zipIdx.foldl (fun cs (p : Value × Nat) => cs.setIfInBounds (off + p.2) p.1) cs.toArray = (x'.cells.toList.zipIdx 0).foldl (fun cs (p : Value × Nat) => cs.setIfInBounds (off + p.2) p.1) cs.toArray := by
       rw [← Array.foldl_toList, Array.toList_zipIdx]
      rw [e, hsp]
      simp [hxs]
     unfold Instr.fill
     simp only [hp, hcond, Bool.false_eq_true, if_false]
     rw [← hrs]
     congr 1
    ·cases h
end Ops
end Go.Proofs.YtjomfjihopegmaaGreatDoor.Sx
end
section
open Go
namespace Go.Proofs.YtjomfjihopegmaaGreatDoor.Sx
section Ops
variable {P : Program} {Γ : Env} {V : Val} {w w0 : World} {M : Nat → Prop} {T : Tab} {g : Nat → Option SV} {a : Act} {o : Oper} {e : Eff}
def seqI (T : Tab) (k : IntKind) : SV → Option (List Prop × List Int)
 | .slc l s off len _ => match T l with
   | some (.ints k2 xs _) => match decide (k = k2) with
     | true => some ([off + len ≤ xs.length], (xs.drop off).take len)
     | false => none
   | some (.roi k2 xs) => match decide (k = k2) with
     | true => some ([off + len ≤ xs.length], (xs.drop off).take len)
     | false => none
   | some B => match rdB B s off len with
     | some (ob, r) => (intsK k r).map fun ns => (ob, ns)
     | none => none
   | none => none
 | .buf l => match T l with
   | some (.rowi k2 xs _) => match decide (k = k2) with
     | true => some ([], xs)
     | false => none
   | _ => none
 | .bslc l lo hi => match T l with
   | some (.rowi k2 xs _) => match decide (k = k2) with
     | true => some ([lo ≤ hi ∧ hi ≤ xs.length], (xs.drop lo).take (hi - lo))
     | false => none
   | _ => none
 | .raw (.slice none 0 0) => some ([], [])
 | .ros l _ => match T l with
   | some (.rov k2 xs) => match decide (k = k2) with
     | true => some ([], xs)
     | false => none
   | some (.rof xs) => match decide (k = .u8) with
     | true => some ([], xs)
     | false => none
   | _ => none
 | .rse l i _ => match T l with
   | some (.rol ds) => match decide (k = .u8) with
     | true => some ([], ds.getD i [])
     | false => none
   | _ => none
 | _ => none
def Holds (w : World) (x : Value) (cs : List Value) : Prop :=
 (x = .slice none 0 0 ∧ cs = []) ∨ ∃ ad c, x = .slice (some ad) cs.length c ∧ ∀ (j : Nat) (u : Value), cs[j]? = some u → w.cell? (ad.add j) = some u
theorem FrozenRd.holds {w0 w : World} {M : Nat → Prop} {x : Value} {d : List Int} (h : FrozenRd w0 M x d) (hf : FrameOK w0 M w) : Holds w x (d.map (Value.int .u8)) := by
 have hk := h.keep (M' := fun _ => False) hf (fun _ q => q.elim)
 rcases hk.1 with ⟨⟨a, rfl⟩, rfl⟩ | ⟨b, o, c, rfl, _, _, hh⟩
 ·cases a with
  | none => exact .inl ⟨rfl, rfl⟩
  | some ad => exact .inr ⟨ad, 0, by simp, fun j u hj => by simp at hj⟩
 ·exact .inr ⟨⟨b, o, none⟩, c, by simp, fun j u hj => by rw [add_addr]; exact hh j u hj⟩
theorem seqI_ok {k : IntKind} {v : SV} {x : Value} {ob : List Prop} {ys : List Int} (hT : TabOK w0 M V T w) (hv : den V v = some x) (h : seqI T k v = some (ob, ys)) (ho : ∀ q ∈ ob, q) :
  Holds w x (ys.map (Value.int k)) := by
 have rd : ∀ (l : Nat) (B : SB) (s : Bool) (off len c : Nat) (r : List SV) (p : Nat × Nat), T l = some B → V.β l = some p → rdB B s off len = some (ob, r) → denL V r = some (ys.map (Value.int k)) →
   Holds w (.slice (some ⟨p.1, p.2 + off, none⟩) len c) (ys.map (Value.int k)) := by
  intro l B s off len c r p hB hβ hr hd
  obtain ⟨xs, h1, h2, h3⟩ := rdB_ok (hT.ok l B hB) (b := p.1) (o := p.2) hβ hr ho
  rw [hd] at h1
  cases h1
  exact .inr ⟨_, c, by rw [h2], fun j u hj => by rw [add_addr]; exact h3 j u hj⟩
 have rint : ∀ (l : Nat) (B : SB) (xs : List Int) (off len c : Nat) (p : Nat × Nat), (B = .ints k xs (match B with | .ints _ _ ty => ty | _ => 0) ∨ B = .roi k xs) → T l = some B → V.β l = some p → off + len ≤ xs.length → ys = (xs.drop off).take len →
   Holds w (.slice (some ⟨p.1, p.2 + off, none⟩) len c) (ys.map (Value.int k)) := by
  intro l B xs off len c p hBk hB hβ hle hys
  have hr : rdB B false off len = some ([off + len ≤ xs.length], (List.range len).map fun j => .int false k (xs.getD (off + j) 0)) := by
   rcases hBk with e | e <;> rw [e] <;> rfl
  obtain ⟨zs, h1, h2, h3⟩ := rdB_ok (hT.ok l B hB) (b := p.1) (o := p.2) hβ hr (by intro q hq; simp only [List.mem_singleton] at hq; subst hq; exact hle)
  have hd := denL_map_range (V := V) len (fun j => .int false k (xs.getD (off + j) 0)) (fun j => .int k (xs.getD (off + j) 0)) (fun j _ => rfl)
  rw [hd] at h1
  cases h1
  have e : (List.range len).map (fun j => Value.int k (xs.getD (off + j) 0)) = ys.map (Value.int k) := by
   subst hys
   apply List.ext_getElem
   ·simp; omega
   ·intro j h4 h5
    simp only [List.length_map, List.length_range] at h4
    have h6 : off + j < xs.length := by omega
    simp [List.getD_eq_getElem?_getD, h6]
  rw [e] at h3
  have hlen : len = (ys.map (Value.int k)).length := by rw [← e]; simp
  exact .inr ⟨_, c, by rw [← hlen], fun j u hj => by rw [add_addr]; exact h3 j u hj⟩
 unfold seqI at h
 split at h
 ·rename_i l s off len c
  simp only [den, Option.map_eq_some_iff] at hv
  obtain ⟨p, hβ, rfl⟩ := hv
  split at h
  ·rename_i k2 xs ty hB
   split at h
   ·rename_i hd
    have := of_decide_eq_true hd
    subst this
    simp only [Option.some.injEq, Prod.mk.injEq] at h
    obtain ⟨rfl, rfl⟩ := h
    exact rint l _ xs off len c p (.inl rfl) hB hβ (ho _ (by simp)) rfl
   ·cases h
  ·rename_i k2 xs hB
   split at h
   ·rename_i hd
    have := of_decide_eq_true hd
    subst this
    simp only [Option.some.injEq, Prod.mk.injEq] at h
    obtain ⟨rfl, rfl⟩ := h
    exact rint l _ xs off len c p (.inr rfl) hB hβ (ho _ (by simp)) rfl
   ·cases h
  ·rename_i B _ _ hB
   split at h
   ·rename_i ob' r hr
    simp only [Option.map_eq_some_iff, Prod.mk.injEq] at h
    obtain ⟨ns, hns, rfl, rfl⟩ := h
    exact rd l B s off len c r p hB hβ hr (intsK_ok hns)
   ·cases h
  ·cases h
 ·rename_i l
  split at h
  ·rename_i k2 xs ty hB
   split at h
   ·rename_i hd
    have := of_decide_eq_true hd
    subst this
    simp only [Option.some.injEq, Prod.mk.injEq] at h
    obtain ⟨rfl, rfl⟩ := h
    obtain ⟨cs, hc, u, hσ, hrow⟩ := hT.ok l _ hB
    simp only [SB.cells, Option.some.injEq] at hc
    subst hc
    simp only [den, hσ, Option.some.injEq] at hv
    subst hv
    rcases hrow.2 with ⟨rfl, h0⟩ | ⟨gb, cap, cur, rfl, _, hh, _, _, _, htake⟩
    ·have : xs = [] := List.eq_nil_of_length_eq_zero h0
     subst this
     exact .inl ⟨rfl, rfl⟩
    ·refine .inr ⟨⟨gb, 0, none⟩, cap, by simp, fun j u hj => ?_⟩
     rw [add_addr, cell_of_row w gb _ _ _ _ hh]
     rw [← htake, List.getElem?_take] at hj
     split at hj
     ·simpa using hj
     ·cases hj
   ·cases h
  ·cases h
 ·rename_i l lo hi
  split at h
  ·rename_i k2 xs ty hB
   split at h
   ·rename_i hd
    have := of_decide_eq_true hd
    subst this
    simp only [Option.some.injEq, Prod.mk.injEq] at h
    obtain ⟨rfl, rfl⟩ := h
    have hb : lo ≤ hi ∧ hi ≤ xs.length := ho _ (by simp)
    obtain ⟨cs, hc, u, hσ, hrow⟩ := hT.ok l _ hB
    simp only [SB.cells, Option.some.injEq] at hc
    subst hc
    simp only [den, hσ] at hv
    rcases hrow.2 with ⟨rfl, h0⟩ | ⟨gb, cap, cur, rfl, _, hh, hle, _, _, htake⟩
    ·have : xs = [] := List.eq_nil_of_length_eq_zero h0
     subst this
     simp only [Option.some.injEq] at hv
     have e1 : lo = 0 ∧ hi = 0 := by simp at hb; omega
     obtain ⟨rfl, rfl⟩ := e1
     left
     refine ⟨by rw [← hv]; simp, by simp⟩
    ·simp only [Option.some.injEq] at hv
     right
     have hlen : ((((xs.drop lo).take (hi - lo)).map (Value.int k)).length) = hi - lo := by simp; omega
     by_cases hcl : cap = lo
     ·rw [if_pos hcl] at hv
      have h0 : hi - lo = 0 := by omega
      refine ⟨_, cap - lo, by rw [hlen]; exact hv.symm, fun j u hj => ?_⟩
      rw [h0] at hj
      simp at hj
     ·rw [if_neg hcl] at hv
      refine ⟨_, cap - lo, by rw [hlen]; exact hv.symm, fun j u hj => ?_⟩
      show w.cell? (((⟨gb, 0, none⟩ : Addr).add lo).add j) = some u
      rw [add_addr, add_addr, cell_of_row w gb _ _ _ _ hh]
      have h5 : (xs.map (Value.int k))[lo + j]? = some u := by
       simp only [List.map_take, List.map_drop, List.getElem?_take] at hj
       split at hj
       ·rwa [List.getElem?_drop] at hj
       ·cases hj
      rw [← htake, List.getElem?_take] at h5
      split at h5
      ·simpa using h5
      ·cases h5
   ·cases h
  ·cases h
 ·simp only [Option.some.injEq, Prod.mk.injEq] at h
  obtain ⟨rfl, rfl⟩ := h
  simp only [den, Option.some.injEq] at hv
  exact .inl ⟨hv.symm, rfl⟩
 ·rename_i l n
  split at h
  ·rename_i k2 xs hB
   split at h
   ·rename_i hd
    have := of_decide_eq_true hd
    subst this
    simp only [Option.some.injEq, Prod.mk.injEq] at h
    obtain ⟨rfl, rfl⟩ := h
    obtain ⟨cs, hc, u, hσ, hrow⟩ := hT.ok l _ hB
    simp only [SB.cells, Option.some.injEq] at hc
    subst hc
    simp only [den, Option.bind_eq_some_iff] at hv
    obtain ⟨u', hσ', hv⟩ := hv
    rw [hσ] at hσ'
    cases hσ'
    obtain ⟨rfl, _⟩ := rosV_ok hv
    rcases hrow with ⟨⟨ad, rfl⟩, rfl⟩ | ⟨b, o, c, rfl, _, _, hh⟩
    ·cases ad with
     | none => exact .inl ⟨rfl, rfl⟩
     | some ad => exact .inr ⟨ad, 0, rfl, fun j u hj => by simp at hj⟩
    ·exact .inr ⟨⟨b, o, none⟩, c, by simp, fun j u hj => by rw [add_addr]; exact hh j u hj⟩
   ·cases h
  ·rename_i xs hB
   split at h
   ·rename_i hd
    have := of_decide_eq_true hd
    subst this
    simp only [Option.some.injEq, Prod.mk.injEq] at h
    obtain ⟨rfl, rfl⟩ := h
    obtain ⟨u, hσ, hF⟩ := hT.fro l _ hB
    simp only [den, hσ, Option.bind_some] at hv
    rw [(rosV_ok hv).1]
    exact hF.holds hT.frame
   ·cases h
  ·cases h
 ·rename_i l i n
  split at h
  ·rename_i ds hB
   split at h
   ·rename_i hd
    have := of_decide_eq_true hd
    subst this
    simp only [Option.some.injEq, Prod.mk.injEq] at h
    obtain ⟨rfl, rfl⟩ := h
    obtain ⟨v, us, hσ, _, hul, hF⟩ := hT.fro l _ hB
    simp only [den, hσ, Option.bind_some, rseV, List.getElem?_cons_succ, Option.bind_eq_some_iff] at hv
    obtain ⟨u, hu, hr⟩ := hv
    rw [(rosV_ok hr).1]
    have hi : i < ds.length := by rw [← hul]; exact (List.getElem?_eq_some_iff.1 hu).1
    rw [List.getD_eq_getElem?_getD, List.getElem?_eq_getElem hi]
    exact (hF i u _ hu (List.getElem?_eq_getElem hi)).holds hT.frame
   ·cases h
  ·cases h
 ·cases h
end Ops
end Go.Proofs.YtjomfjihopegmaaGreatDoor.Sx
end
section
open Go
namespace Go.Proofs.YtjomfjihopegmaaGreatDoor.Sx
section Ops
variable {P : Program} {Γ : Env} {V : Val} {w w0 : World} {M : Nat → Prop} {T : Tab} {g : Nat → Option SV} {a : Act} {o : Oper} {e : Eff}
theorem append_blk {t ty el : TypeId} {i : TypeInfo} {z : Value} {v v' x : Value} {w' : World} {n : Nat} {xs news : List Value} (ht : P.underlying t = some (.slice el)) (hi : P.info? el = some i) (hz : i.zero = some z)
  (hown : w.ownsRow 0 el i.size v n xs) {ad : Addr} {m c : Nat} (hx : x = .slice (some ad) m c) (hl : news.length = m * i.size) (hnews : ∀ (j : Nat) (u : Value), news[j]? = some u → w.cell? (ad.add j) = some u)
  (h1 : ∀ u ∈ news, u.oneCell' = true) (h63 : n + m ≤ maxLen) (hbytes : (n + m) * i.bytes ≤ 140737488355328)
  (hr : (Builtin.append_ #[t, t] ty #[v, x]).run P w = .ok v' w') : v'.ownBlock = v.ownBlock ∨ v'.ownBlock = some w.heap.size := by
 subst hx
 have hsmall : n + m ≤ 9223372036854775807 := by simp only [maxLen] at h63; omega
 rcases hown.2 with ⟨rfl, rfl⟩ | ⟨gb, cap, cur, rfl, _, hg, hnc, hcm, hcs, htake⟩
 ·by_cases hm : m = 0
  ·subst hm
   have hn : news = [] := List.eq_nil_of_length_eq_zero (by simpa using hl)
   subst hn
   have : (Builtin.append_ #[t, t] ty #[.slice none 0 0, .slice (some ad) 0 c]).run P w = .ok (.slice none 0 0) w := by
    simp [Builtin.append_, run_underlying ht, sizeOf, typeInfo, hi, Builtin.lenOf, Builtin.firstCells, loadCells, loadCellsFrom]
   rw [this] at hr
   cases hr
   exact .inl rfl
  ·rw [run_append_nil (P := P) w t ty el i z ht hi hz ad m c news hl hnews (by omega) (by omega) (by simp only [Nat.zero_add] at hbytes; omega)] at hr
   cases hr
   exact .inr rfl
 ·by_cases hroom : n + m ≤ cap
  ·rw [run_append_room (P := P) w t ty el i ht hi gb n cap cur hg ad m c news hl hnews h1 hroom (by rw [hl, hcs, ← Nat.add_mul]; exact Nat.mul_le_mul_right _ hroom)] at hr
   cases hr
   exact .inl rfl
  ·have holds : ∀ (j : Nat) (u : Value), xs[j]? = some u → w.cell? ((⟨gb, 0, none⟩ : Addr).add j) = some u := fun j u hj => by
    rw [add_addr, cell_of_row w gb _ _ _ _ hg]
    rw [← htake, List.getElem?_take] at hj
    split at hj
    ·simpa using hj
    ·cases hj
   rw [run_append_grow (P := P) w t ty el i z ht hi hz ⟨gb, 0, none⟩ n cap xs hown.1 holds ad m c news hl hnews (by omega) (by omega) (growslice_fits (by omega) hbytes)] at hr
   cases hr
   exact .inr rfl
def destI (T : Tab) (k : IntKind) (el : TypeId) : SV → Option (Option Nat × List Prop × List Int)
 | .raw (.slice none 0 0) => some (none, [], [])
 | .buf l => match T l with
   | some (.rowi k2 xs ty) => match decide (k2 = k), Nat.beq ty el with
     | true, true => some (some l, [], xs)
     | _, _ => none
   | _ => none
 | .slc l s 0 len cap => match T l with
   | some (.ints k2 xs ty) => match decide (k2 = k), Nat.beq ty el with
     | true, true => some (some l, [cap = xs.length ∧ len ≤ cap ∧ cap ≤ 9223372036854775807], xs.take len)
     | _, _ => none
   | some (.own cells ty) => match s, intsK k cells, Nat.beq ty el with
     | true, some xs, true => match Nat.beq cap cells.length, Nat.ble len cap, Nat.ble cap 9223372036854775807 with
       | true, true, true => some (some l, [], xs.take len)
       | _, _, _ => none
     | _, _, _ => none
   | _ => none
 | _ => none
theorem destI_ok {k : IntKind} {el : TypeId} {v : SV} {x : Value} {lo : Option Nat} {ob : List Prop} {xs : List Int} (hT : TabOK w0 M V T w) (hv : den V v = some x) (h : destI T k el v = some (lo, ob, xs)) (ho : ∀ q ∈ ob, q) :
  w.ownsRow 0 el 1 x xs.length (xs.map (Value.int k)) ∧ (lo = none → x.ownBlock = none) ∧ ∀ l, lo = some l → ∃ B, T l = some B ∧ B.owned = true ∧ ∀ n, x.ownBlock = some n → B.blk V l = some n := by
 have full : ∀ (l : Nat) (B : SB) (ys : List Int) (len cap : Nat), T l = some B → B.owned = true → V.β l ≠ none → (∃ b, V.β l = some (b, 0) ∧ B.blk V l = some b ∧ w.heap[b]? = some (.cells (ys.map (Value.int k)).toArray el (0, 0))) → cap = ys.length → len ≤ cap → cap ≤ 9223372036854775807 →
   den V (.slc l true 0 len cap) = some x → w.ownsRow 0 el 1 x (ys.take len).length ((ys.take len).map (Value.int k)) ∧ ∃ B, T l = some B ∧ B.owned = true ∧ ∀ n, x.ownBlock = some n → B.blk V l = some n := by
  intro l B ys len cap hB hown _ ⟨b, hβ, hblk, hh⟩ hcap hle hmax hd
  simp only [den, hβ, Option.map_some, Option.some.injEq, Nat.add_zero] at hd
  subst hd
  have hlen : (ys.take len).length = len := by simp; omega
  refine ⟨⟨by simp, .inr ⟨b, cap, _, by rw [hlen], Nat.zero_le _, hh, by omega, by simp only [maxLen]; omega, by simp [hcap], by rw [hlen]; simp [List.map_take]⟩⟩, B, hB, hown, fun n hn => ?_⟩
  simp only [Value.ownBlock, Option.some.injEq] at hn
  subst hn
  exact hblk
 unfold destI at h
 split at h
 ·simp only [Option.some.injEq, Prod.mk.injEq] at h
  obtain ⟨rfl, rfl, rfl⟩ := h
  simp only [den, Option.some.injEq] at hv
  subst hv
  exact ⟨World.ownsRow_nil w 0 el 1, fun _ => rfl, fun l hl => (by cases hl)⟩
 ·rename_i l
  split at h
  ·rename_i k2 ys ty hB
   split at h
   ·rename_i h1 h2
    have := of_decide_eq_true h1
    subst this
    have := Nat.eq_of_beq_eq_true h2
    subst this
    simp only [Option.some.injEq, Prod.mk.injEq] at h
    obtain ⟨rfl, rfl, rfl⟩ := h
    obtain ⟨cs, hc, u, hσ, hrow⟩ := hT.ok l _ hB
    simp only [SB.cells, Option.some.injEq] at hc
    subst hc
    simp only [den, hσ, Option.some.injEq] at hv
    subst hv
    refine ⟨hrow, fun h => (by cases h), fun l' hl' => ?_⟩
    cases hl'
    exact ⟨_, hB, rfl, fun n hn => by simp [SB.blk, hσ, hn]⟩
   ·cases h
  ·cases h
 ·rename_i l s len cap
  have hv' : den V (.slc l true 0 len cap) = some x := hv
  split at h
  ·rename_i k2 ys ty hB
   split at h
   ·rename_i h1 h2
    have := of_decide_eq_true h1
    subst this
    have := Nat.eq_of_beq_eq_true h2
    subst this
    simp only [Option.some.injEq, Prod.mk.injEq] at h
    obtain ⟨rfl, rfl, rfl⟩ := h
    obtain ⟨hcap, hle, hmax⟩ : cap = ys.length ∧ len ≤ cap ∧ cap ≤ 9223372036854775807 := ho _ (by simp)
    obtain ⟨cs, hc, b, hβ, hh⟩ := hT.ok l _ hB
    simp only [SB.cells, Option.some.injEq] at hc
    subst hc
    obtain ⟨r1, r2⟩ := full l _ ys len cap hB rfl (by rw [hβ]; simp) ⟨b, hβ, by simp [SB.blk, hβ], hh⟩ hcap hle hmax hv'
    exact ⟨r1, fun h => (by cases h), fun l' hl' => (by cases hl'; exact r2)⟩
   ·cases h
  ·rename_i cells ty hB
   split at h
   ·rename_i ys hys h2
    have := Nat.eq_of_beq_eq_true h2
    subst this
    split at h
    ·rename_i h3 h4 h5
     simp only [Option.some.injEq, Prod.mk.injEq] at h
     obtain ⟨rfl, rfl, rfl⟩ := h
     obtain ⟨cs, hc, b, hβ, hh⟩ := hT.ok l _ hB
     have hc2 := intsK_ok (V := V) hys
     rw [show SB.cells V (.own cells ty) = denL V cells from rfl, hc2] at hc
     cases hc
     have hl2 := denL_length hc2
     obtain ⟨r1, r2⟩ := full l _ ys len cap hB rfl (by rw [hβ]; simp) ⟨b, hβ, by simp [SB.blk, hβ], hh⟩ (by rw [Nat.eq_of_beq_eq_true h3]; simpa using hl2.symm) (Nat.le_of_ble_eq_true h4) (Nat.le_of_ble_eq_true h5) hv'
     exact ⟨r1, fun h => (by cases h), fun l' hl' => (by cases hl'; exact r2)⟩
    ·cases h
   ·cases h
  ·cases h
 ·cases h
def goneL : Option Nat → List (Nat × SB)
 | some l => [(l, .gone)]
 | none => []
theorem TabOK.appendG (h : TabOK w0 M V T w) {lab : Nat} (hf : V.fresh lab) {w' : World} {v v' u' : Value} {lo : Option Nat} {B : SB}
  (hok : okB (V.putσ lab u') w' lab B) (hbk : ∀ n, B.blk (V.putσ lab u') lab = some n → v'.ownBlock = some n) (hgr : w.grownBy w' v.ownBlock)
  (hblk : v'.ownBlock = v.ownBlock ∨ v'.ownBlock = some w.heap.size) (hnone : lo = none → v.ownBlock = none)
  (hlo : ∀ l, lo = some l → ∃ B, T l = some B ∧ B.owned = true ∧ ∀ n, v.ownBlock = some n → B.blk V l = some n) (rv : SV) (ob : List Prop) (hfr : froB w0 M (V.putσ lab u') lab B := by exact froB_plain rfl) :
  TabOK w0 M (V.putσ lab u') (upd T lab { obl := ob, val := rv, new := [B], wr := goneL lo }) w' := by
 have hext := Val.putσ_ext hf lab (Nat.le_refl _) (by omega) u'
 have hlab : ∀ l, lo = some l → l ≠ lab := by
  intro l hl e
  subst e
  obtain ⟨B1, h1, h2, _⟩ := hlo l hl
  rcases h.known h1 (by rintro rfl; cases h2) with h3 | h3
  ·exact h3 (hf l (Nat.le_refl _) (by omega)).1
  ·exact h3 (hf l (Nat.le_refl _) (by omega)).2
 have hvold : ∀ n, v.ownBlock = some n → ∃ l B0, lo = some l ∧ T l = some B0 ∧ B0.owned = true ∧ B0.blk V l = some n := by
  intro n hn
  cases hlo' : lo with
  | none => rw [hnone hlo'] at hn; cases hn
  | some l => obtain ⟨B1, h1, h2, h3⟩ := hlo l hlo'; exact ⟨l, B1, rfl, h1, h2, h3 n hn⟩
 refine h.step (N := fun k => if k = lab then some B else if lo = some k then some .gone else none) hext.1 (fun k C hk => ?_) (fun k C hk => ?_) (fun k C n hk hb => ?_) (fun k C k' C' n hne hk hk' hown hb => ?_) hgr.size (fun n hn hx => ?_) hgr.os hgr.tape hgr.output (fun k C hk => ?_)
 ·have hk2 : look k (goneL lo ++ [(lab, B)]) = some C ∨ (look k (goneL lo ++ [(lab, B)]) = none ∧ T k = some C) := by
   unfold upd Eff.tab at hk
   simp only [newL] at hk
   split at hk
   ·rename_i C' hC; cases hk; exact .inl hC
   ·rename_i hC; exact .inr ⟨hC, hk⟩
  rw [look_append] at hk2
  by_cases e : k = lab
  ·subst e
   left
   have h0 : look k (goneL lo) = none := by
    cases hlo' : lo with
    | none => rfl
    | some l => simp only [goneL]; rw [look_cons_ne (hlab l hlo')]; rfl
   rw [h0] at hk2
   simp only [look_cons_eq] at hk2
   rcases hk2 with hk2 | ⟨hk2, _⟩
   ·simpa using hk2
   ·cases hk2
  ·have h0 : look k [(lab, B)] = none := by rw [look_cons_ne (fun x => e x.symm)]; rfl
   rw [h0] at hk2
   cases hlo' : lo with
   | none =>
     rw [hlo'] at hk2
     simp only [goneL, look] at hk2
     rcases hk2 with hk2 | ⟨_, hk2⟩
     ·cases hk2
     ·right; exact ⟨by simp [e], hk2⟩
   | some l =>
     rw [hlo'] at hk2
     simp only [goneL] at hk2
     by_cases e2 : l = k
     ·subst e2
      rw [look_cons_eq] at hk2
      rcases hk2 with hk2 | ⟨hk2, _⟩
      ·left; simp only [Option.some.injEq] at hk2; subst hk2; simp [e]
      ·cases hk2
     ·rw [look_cons_ne e2] at hk2
      simp only [look] at hk2
      rcases hk2 with hk2 | ⟨_, hk2⟩
      ·cases hk2
      ·right; exact ⟨by simp [e, e2], hk2⟩
 ·by_cases e : k = lab
  ·subst e
   simp only [if_true, Option.some.injEq] at hk
   subst hk
   exact hok
  ·simp only [e, if_false] at hk
   split at hk
   ·cases hk; exact ⟨[], rfl, trivial⟩
   ·cases hk
 ·by_cases e : k = lab
  ·subst e
   simp only [if_true, Option.some.injEq] at hk
   subst hk
   have hb' : v'.ownBlock = some n := hbk n hb
   rcases hblk with hb2 | hb2
   ·rw [hb2] at hb'
    obtain ⟨l, B0, h0, h1, h2, h3⟩ := hvold n hb'
    exact .inr (.inl ⟨l, B0, h1, h2, h3, by simp [hlab l h0, h0]⟩)
   ·rw [hb2] at hb'; cases hb'; exact .inl (Nat.le_refl _)
  ·simp only [e, if_false] at hk
   split at hk
   ·cases hk; simp [SB.blk] at hb
   ·cases hk
 ·by_cases e : k = lab
  ·subst e
   have e' : k' ≠ k := fun x => hne x.symm
   simp only [e', if_false] at hk'
   split at hk'
   ·cases hk'; simp [SB.blk]
   ·cases hk'
  ·simp only [e, if_false] at hk
   split at hk
   ·cases hk; cases hown
   ·cases hk
 ·refine hgr.block n hn fun e => ?_
  obtain ⟨l, B0, h0, h1, h2, h3⟩ := hvold n e.symm
  exact hx l B0 h1 h2 (by simp [hlab l h0, h0]) h3
 ·split at hk
  ·rename_i e
   subst e
   cases hk
   exact hfr
  ·split at hk
   ·cases hk; trivial
   ·cases hk
theorem TabOK.append (h : TabOK w0 M V T w) {lab : Nat} (hf : V.fresh lab) {w' : World} {v v' : Value} {lo : Option Nat} {B : SB} {cs : List Value} {el : TypeId} {sz n : Nat}
  (hB : ∃ k xs, B = .rowi k xs el ∧ sz = 1 ∧ n = xs.length) (hc : B.cells V = some cs) (hrow : w'.ownsRow 0 el sz v' n cs) (hgr : w.grownBy w' v.ownBlock)
  (hblk : v'.ownBlock = v.ownBlock ∨ v'.ownBlock = some w.heap.size) (hnone : lo = none → v.ownBlock = none)
  (hlo : ∀ l, lo = some l → ∃ B, T l = some B ∧ B.owned = true ∧ ∀ n, v.ownBlock = some n → B.blk V l = some n) (rv : SV) (ob : List Prop) :
  TabOK w0 M (V.putσ lab v') (upd T lab { obl := ob, val := rv, new := [B], wr := goneL lo }) w' := by
 have hext := Val.putσ_ext hf lab (Nat.le_refl _) (by omega) v'
 have hput : (V.putσ lab v').σ lab = some v' := by simp [Val.putσ]
 refine h.appendG hf ⟨cs, SB.cells_mono hext.1 hc, ?_⟩ (fun n hb => ?_) hgr hblk hnone hlo rv ob (by obtain ⟨kk, xs, rfl, _⟩ := hB; trivial)
 ·obtain ⟨kk, xs, rfl, rfl, rfl⟩ := hB
  exact ⟨v', hput, hrow⟩
 ·obtain ⟨kk, xs, rfl, _⟩ := hB
  simpa [SB.blk, hput] using hb
theorem TabOK.appendR (h : TabOK w0 M V T w) {lab : Nat} (hf : V.fresh lab) {w' : World} {v' : Value} {own : Option Nat} {lo : Option Nat} {cells : List SV} {cs : List Value} {el : TypeId} {sz nn : Nat}
  (hc : denL V cells = some cs) (hrow : w'.ownsRow 0 el sz v' nn cs) (hnil : v' ≠ .slice none 0 0) (hgr : w.grownBy w' own)
  (hblk : v'.ownBlock = own ∨ v'.ownBlock = some w.heap.size) (hnone : lo = none → own = none)
  (hlo : ∀ l, lo = some l → ∃ B, T l = some B ∧ B.owned = true ∧ ∀ n, own = some n → B.blk V l = some n) (rv : SV) (ob : List Prop) :
  ∃ b cap, v' = .slice (some ⟨b, 0, none⟩) nn cap ∧ TabOK w0 M (V.put2 lab (b, 0) (.int .i64 (cap : Nat))) (upd T lab { obl := ob, val := rv, new := [.row sz cells el], wr := goneL lo }) w' := by
 obtain ⟨b, cap, cur, rfl, _, hheap, hncap, hcm, hcs, htake⟩ := hrow.2.resolve_left (fun q => hnil q.1)
 refine ⟨b, cap, rfl, ?_⟩
 have hext := Val.put2_ext hf lab (Nat.le_refl _) (by omega) (b, 0) (.int .i64 (cap : Nat))
 have hput : (V.put2 lab (b, 0) (.int .i64 (cap : Nat))).β lab = some (b, 0) := by simp [Val.put2, Val.put, Val.putσ]
 have hputσ : (V.put2 lab (b, 0) (.int .i64 (cap : Nat))).σ lab = some (.int .i64 (cap : Nat)) := by simp [Val.put2, Val.put, Val.putσ]
 have hlab : ∀ l, lo = some l → l ≠ lab := by
  intro l hl e
  subst e
  obtain ⟨B1, h1, h2, _⟩ := hlo l hl
  rcases h.known h1 (by rintro rfl; cases h2) with h3 | h3
  ·exact h3 (hf l (Nat.le_refl _) (by omega)).1
  ·exact h3 (hf l (Nat.le_refl _) (by omega)).2
 have hvold : ∀ n, own = some n → ∃ l B0, lo = some l ∧ T l = some B0 ∧ B0.owned = true ∧ B0.blk V l = some n := by
  intro n hn
  cases hlo' : lo with
  | none => rw [hnone hlo'] at hn; cases hn
  | some l => obtain ⟨B1, h1, h2, h3⟩ := hlo l hlo'; exact ⟨l, B1, rfl, h1, h2, h3 n hn⟩
 refine h.step (N := fun k => if k = lab then some (.row sz cells el) else if lo = some k then some .gone else none) hext.1 (fun k C hk => ?_) (fun k C hk => ?_) (fun k C n hk hb => ?_) (fun k C k' C' n hne hk hk' hown hb => ?_) hgr.size (fun n hn hx => ?_) hgr.os hgr.tape hgr.output
 ·have hk2 : look k (goneL lo ++ [(lab, SB.row sz cells el)]) = some C ∨ (look k (goneL lo ++ [(lab, SB.row sz cells el)]) = none ∧ T k = some C) := by
   unfold upd Eff.tab at hk
   simp only [newL] at hk
   split at hk
   ·rename_i C' hC; cases hk; exact .inl hC
   ·rename_i hC; exact .inr ⟨hC, hk⟩
  rw [look_append] at hk2
  by_cases e : k = lab
  ·subst e
   left
   have h0 : look k (goneL lo) = none := by
    cases hlo' : lo with
    | none => rfl
    | some l => simp only [goneL]; rw [look_cons_ne (hlab l hlo')]; rfl
   rw [h0] at hk2
   simp only [look_cons_eq] at hk2
   rcases hk2 with hk2 | ⟨hk2, _⟩
   ·simpa using hk2
   ·cases hk2
  ·have h0 : look k [(lab, SB.row sz cells el)] = none := by rw [look_cons_ne (fun x => e x.symm)]; rfl
   rw [h0] at hk2
   cases hlo' : lo with
   | none =>
     rw [hlo'] at hk2
     simp only [goneL, look] at hk2
     rcases hk2 with hk2 | ⟨_, hk2⟩
     ·cases hk2
     ·right; exact ⟨by simp [e], hk2⟩
   | some l =>
     rw [hlo'] at hk2
     simp only [goneL] at hk2
     by_cases e2 : l = k
     ·subst e2
      rw [look_cons_eq] at hk2
      rcases hk2 with hk2 | ⟨hk2, _⟩
      ·left; simp only [Option.some.injEq] at hk2; subst hk2; simp [e]
      ·cases hk2
     ·rw [look_cons_ne e2] at hk2
      simp only [look] at hk2
      rcases hk2 with hk2 | ⟨_, hk2⟩
      ·cases hk2
      ·right; exact ⟨by simp [e, e2], hk2⟩
 ·by_cases e : k = lab
  ·subst e
   simp only [if_true, Option.some.injEq] at hk
   subst hk
   refine ⟨cs, denL_mono hext.1 hc, b, cap, cur, hput, hputσ, hheap, hcm, hcs, ⟨nn, hrow.1, hncap⟩, ?_⟩
   rw [hrow.1]; exact htake
  ·simp only [e, if_false] at hk
   split at hk
   ·cases hk; exact ⟨[], rfl, trivial⟩
   ·cases hk
 ·by_cases e : k = lab
  ·subst e
   simp only [if_true, Option.some.injEq] at hk
   subst hk
   have hb' : (Value.slice (some ⟨b, 0, none⟩) nn cap).ownBlock = some n := by
    simpa [SB.blk, hput, Value.ownBlock] using hb
   rcases hblk with hb2 | hb2
   ·rw [hb2] at hb'
    obtain ⟨l, B0, h0, h1, h2, h3⟩ := hvold n hb'
    exact .inr (.inl ⟨l, B0, h1, h2, h3, by simp [hlab l h0, h0]⟩)
   ·rw [hb2] at hb'; cases hb'; exact .inl (Nat.le_refl _)
  ·simp only [e, if_false] at hk
   split at hk
   ·cases hk; simp [SB.blk] at hb
   ·cases hk
 ·by_cases e : k = lab
  ·subst e
   have e' : k' ≠ k := fun x => hne x.symm
   simp only [e', if_false] at hk'
   split at hk'
   ·cases hk'; simp [SB.blk]
   ·cases hk'
  ·simp only [e, if_false] at hk
   split at hk
   ·cases hk; cases hown
   ·cases hk
 ·refine hgr.block n hn fun e => ?_
  obtain ⟨l, B0, h0, h1, h2, h3⟩ := hvold n e.symm
  exact hx l B0 h1 h2 (by simp [hlab l h0, h0]) h3
end Ops
end Go.Proofs.YtjomfjihopegmaaGreatDoor.Sx
end
section
open Go
namespace Go.Proofs.YtjomfjihopegmaaGreatDoor.Sx
section Ops
variable {P : Program} {Γ : Env} {V : Val} {w w0 : World} {M : Nat → Prop} {T : Tab} {g : Nat → Option SV} {a : Act} {o : Oper} {e : Eff}
def SimV (P : Program) (w0 : World) (M : Nat → Prop) (V : Val) (T : Tab) (lab : Nat) (e : Eff) (s : Sem Value) (w : World) : Prop :=
 ∃ V' x w', s.run P w = .ok x w' ∧ V.ext lab V' ∧ den V' e.val = some x ∧ TabOK w0 M V' (upd T lab e) w'
theorem simV_pure {lab : Nat} {s : Sem Value} (h : ∃ x, s.run P w = .ok x w ∧ den V e.val = some x ∧ e.new = [] ∧ e.wr = []) (hT : TabOK w0 M V T w) : SimV P w0 M V T lab e s w := by
 obtain ⟨x, h1, h2, h3, h4⟩ := h
 exact ⟨V, x, w, h1, V.ext_refl lab, h2, by rw [upd_none T lab h3 h4]; exact hT⟩
theorem TabOK.sub {T' : Tab} (h : TabOK w0 M V T w) (hsub : ∀ l B, T' l = some B → T l = some B) : TabOK w0 M V T' w :=
 ⟨fun l B hl => h.ok l B (hsub l B hl), fun l B l' B' n hne hl hl' => h.dist l B l' B' n hne (hsub l B hl) (hsub l' B' hl'), fun l B n hl => h.perm l B n (hsub l B hl), h.frame, fun l B hl => h.fro l B (hsub l B hl)⟩
def intD : TypeDesc → Option IntKind
 | .int k => some k
 | _ => none
def eAppI (T : Tab) (te : TI) (el : TypeId) (lab : Nat) (x y : SV) : Option Eff :=
 match intD te.desc, Nat.beq te.size 1, Nat.blt 0 te.bytes && Nat.beq te.zero.length 1 with
 | some k, true, true => match destI T k el x, seqI T k y with
   | some (lo, o1, xs), some (o2, ys) => some { obl := [(xs.length + ys.length) * te.bytes ≤ 140737488355328] ++ o1 ++ o2, val := .buf lab, new := [.rowi k (xs ++ ys) el], wr := goneL lo }
   | _, _ => none
 | _, _, _ => none
theorem eAppI_ok (hty : TyOK P Γ) {T' : Tab} (hsub : ∀ l B, T' l = some B → T l = some B) (hT : TabOK w0 M V T w) {lab : Nat} (hf : V.fresh lab) {t ty el : TypeId} {te : TI} (ht : P.underlying t = some (.slice el)) (hte : Γ.ty el = some te)
  {x y : SV} {u v : Value} (hx : den V x = some u) (hy : den V y = some v) (he : eAppI T' te el lab x y = some e) (ho : ∀ q ∈ e.obl, q) : SimV P w0 M V T lab e (Builtin.append_ #[t, t] ty #[u, v]) w := by
 unfold eAppI at he
 split at he
 ·rename_i k hk hsz hby
  split at he
  ·rename_i lo o1 xs o2 ys h1 h2
   simp only [Option.some.injEq] at he
   subst he
   obtain ⟨_, i, z, hi, hisz, hiby, hz, hzero⟩ := hty el te hte
   have hs1 : i.size = 1 := by rw [hisz]; exact Nat.eq_of_beq_eq_true hsz
   simp only [Bool.and_eq_true] at hby
   have hb1 : 0 < te.bytes := by simpa [Nat.blt_eq] using hby.1
   have hbound : (xs.length + ys.length) * te.bytes ≤ 140737488355328 := ho _ (by simp)
   have hd := destI_ok (hT.sub hsub) hx h1 (fun q hq => ho q (by simp [hq]))
   have hh := seqI_ok (hT.sub hsub) hy h2 (fun q hq => ho q (by simp [hq]))
   obtain ⟨hrow, hnone, hlo⟩ := hd
   have hlo' : ∀ l, lo = some l → ∃ B, T l = some B ∧ B.owned = true ∧ ∀ n, u.ownBlock = some n → B.blk V l = some n := fun l hl => by
    obtain ⟨B, h1, h2, h3⟩ := hlo l hl; exact ⟨B, hsub l B h1, h2, h3⟩
   have hn63 : xs.length + ys.length ≤ maxLen := by
    have := Nat.le_mul_of_pos_right (xs.length + ys.length) hb1
    simp only [maxLen]; omega
   have hzs : z.cells.size = 1 := by
    have h1 := denL_length (hzero V)
    have h2 := Nat.eq_of_beq_eq_true hby.2
    simpa [h2] using h1
   rcases hh with ⟨rfl, hys⟩ | ⟨ad, c, rfl, hcells⟩
   ·have : ys = [] := by simpa using hys
    subst this
    have hr := run_append_owned_none (P := P) (w := w) 0 t ty el i 1 ht hi u xs.length _ hrow
    refine ⟨V.putσ lab u, u, w, hr, Val.putσ_ext hf lab (Nat.le_refl _) (by omega) u, by simp [den, Val.putσ], ?_⟩
    exact hT.append hf ⟨k, xs ++ [], rfl, rfl, rfl⟩ (show SB.cells V (.rowi k (xs ++ []) el) = some ((xs ++ []).map (Value.int k)) from rfl) (by simpa using hrow) ⟨rfl, rfl, rfl, Nat.le_refl _, fun _ _ _ => rfl⟩ (.inl rfl) hnone hlo' _ _
   ·have hone : ∀ q ∈ ys.map (Value.int k), q.oneCell' = true := by
     intro q hq
     obtain ⟨n, _, rfl⟩ := List.mem_map.1 hq
     rfl
    have hl : (ys.map (Value.int k)).length = (ys.map (Value.int k)).length * i.size := by rw [hs1]; simp
    have hrow1 : w.ownsRow 0 el i.size u xs.length (xs.map (Value.int k)) := by rw [hs1]; exact hrow
    obtain ⟨v', w', hr, hrow', hgr, _⟩ := run_append_own (P := P) w 0 t ty el i z i.size i.bytes ht hi hz rfl rfl (by rw [hs1]; exact hzs) (by omega) u xs.length (xs.map (Value.int k)) hrow1 ad _ c _ hl hcells hone (by simpa using hn63) (by rw [hiby]; simpa using hbound) (Nat.zero_le _)
    have hblk := append_blk (P := P) ht hi hz hrow1 rfl hl hcells hone (by simpa using hn63) (by rw [hiby]; simpa using hbound) hr
    refine ⟨V.putσ lab v', v', w', hr, Val.putσ_ext hf lab (Nat.le_refl _) (by omega) v', by simp [den, Val.putσ], ?_⟩
    rw [hs1] at hrow'
    exact hT.append hf ⟨k, xs ++ ys, rfl, rfl, rfl⟩ (show SB.cells V (.rowi k (xs ++ ys) el) = some ((xs ++ ys).map (Value.int k)) from rfl) (by simpa using hrow') hgr hblk hnone hlo' _ _
  ·cases he
 ·cases he
end Ops
end Go.Proofs.YtjomfjihopegmaaGreatDoor.Sx
end
section
open Go
namespace Go.Proofs.YtjomfjihopegmaaGreatDoor.Sx
section Ops
variable {P : Program} {Γ : Env} {V : Val} {w w0 : World} {M : Nat → Prop} {T : Tab} {g : Nat → Option SV} {a : Act} {o : Oper} {e : Eff}
def HoldsC (w : World) (sz : Nat) (x : Value) (m : Nat) (cs : List Value) : Prop :=
 (x = .slice none 0 0 ∧ m = 0 ∧ cs = []) ∨ ∃ ad c, x = .slice (some ad) m c ∧ cs.length = m * sz ∧ ∀ (j : Nat) (u : Value), cs[j]? = some u → w.cell? (ad.add j) = some u
def seqC (T : Tab) (sz : Nat) : SV → Option (Nat × List SV)
 | .slc l s off len _ => match T l with
   | some B => match rdB B s off (len * sz) with
     | some ([], r) => match onesB r with
       | true => some (len, r)
       | false => none
     | _ => none
   | none => none
 | .slcR l off len _ => match T l with
   | some B => match rdB B true off (len * sz) with
     | some ([], r) => match onesB r with
       | true => some (len, r)
       | false => none
     | _ => none
   | none => none
 | .raw (.slice none 0 0) => some (0, [])
 | _ => none
theorem seqC_ok {sz : Nat} {v : SV} {x : Value} {m : Nat} {r : List SV} (hT : TabOK w0 M V T w) (hv : den V v = some x) (h : seqC T sz v = some (m, r)) :
  ∃ cs, denL V r = some cs ∧ onesB r = true ∧ HoldsC w sz x m cs := by
 have rd : ∀ (l : Nat) (B : SB) (s : Bool) (off len c : Nat) (r : List SV) (p : Nat × Nat), T l = some B → V.β l = some p → rdB B s off (len * sz) = some ([], r) →
   ∃ cs, denL V r = some cs ∧ HoldsC w sz (.slice (some ⟨p.1, p.2 + off, none⟩) len c) len cs := by
  intro l B s off len c r p hB hβ hr
  obtain ⟨xs, h1, h2, h3⟩ := rdB_ok (hT.ok l B hB) (b := p.1) (o := p.2) hβ hr (by simp)
  exact ⟨xs, h1, .inr ⟨_, c, rfl, h2, fun j u hj => by rw [add_addr]; exact h3 j u hj⟩⟩
 unfold seqC at h
 split at h
 ·rename_i l s off len c
  simp only [den, Option.map_eq_some_iff] at hv
  obtain ⟨p, hβ, rfl⟩ := hv
  split at h
  ·rename_i B hB
   split at h
   ·rename_i r' hr
    split at h
    ·rename_i hone
     simp only [Option.some.injEq, Prod.mk.injEq] at h
     obtain ⟨rfl, rfl⟩ := h
     obtain ⟨cs, h1, h2⟩ := rd l B s off len c r' p hB hβ hr
     exact ⟨cs, h1, hone, h2⟩
    ·cases h
   ·cases h
  ·cases h
 ·rename_i l off len lo
  simp only [den, Option.map_eq_some_iff, Option.bind_eq_some_iff] at hv
  obtain ⟨p, hβ, c, _, rfl⟩ := hv
  split at h
  ·rename_i B hB
   split at h
   ·rename_i r' hr
    split at h
    ·rename_i hone
     simp only [Option.some.injEq, Prod.mk.injEq] at h
     obtain ⟨rfl, rfl⟩ := h
     obtain ⟨cs, h1, h2⟩ := rd l B true off len (c - lo) r' p hB hβ hr
     exact ⟨cs, h1, hone, h2⟩
    ·cases h
   ·cases h
  ·cases h
 ·simp only [Option.some.injEq, Prod.mk.injEq] at h
  obtain ⟨rfl, rfl⟩ := h
  simp only [den, Option.some.injEq] at hv
  exact ⟨[], rfl, rfl, .inl ⟨hv.symm, rfl, rfl⟩⟩
 ·cases h
def destC (T : Tab) (el : TypeId) (sz : Nat) : SV → Option (Option Nat × Nat × List SV)
 | .raw (.slice none 0 0) => some (none, 0, [])
 | .slcR l 0 len 0 => match T l with
   | some (.row sz2 cells ty) => match Nat.beq sz2 sz, Nat.beq ty el, Nat.ble (len * sz) cells.length && Nat.blt 0 sz with
     | true, true, true => some (some l, len, cells.take (len * sz))
     | _, _, _ => none
   | _ => none
 | .slc l true 0 len cap => match T l with
   | some (.own cells ty) => match Nat.beq (cap * sz) cells.length, Nat.beq ty el, Nat.ble len cap && Nat.ble cap 9223372036854775807 with
     | true, true, true => some (some l, len, cells.take (len * sz))
     | _, _, _ => none
   | _ => none
 | _ => none
theorem destC_ok {el : TypeId} {sz : Nat} {v : SV} {x : Value} {lo : Option Nat} {n : Nat} {r : List SV} (hT : TabOK w0 M V T w) (hv : den V v = some x) (h : destC T el sz v = some (lo, n, r)) :
  ∃ cs, denL V r = some cs ∧ w.ownsRow 0 el sz x n cs ∧ (lo = none → x = .slice none 0 0) ∧ (∀ l, lo = some l → x ≠ .slice none 0 0) ∧ ∀ l, lo = some l → ∃ B, T l = some B ∧ B.owned = true ∧ ∀ n, x.ownBlock = some n → B.blk V l = some n := by
 unfold destC at h
 split at h
 ·simp only [Option.some.injEq, Prod.mk.injEq] at h
  obtain ⟨rfl, rfl, rfl⟩ := h
  simp only [den, Option.some.injEq] at hv
  subst hv
  exact ⟨[], rfl, World.ownsRow_nil w 0 el sz, fun _ => rfl, fun l hl => (by cases hl), fun l hl => (by cases hl)⟩
 ·rename_i l len
  split at h
  ·rename_i sz2 cells ty hB
   split at h
   ·rename_i h1 h2 h3
    have := Nat.eq_of_beq_eq_true h1
    subst this
    have := Nat.eq_of_beq_eq_true h2
    subst this
    simp only [Bool.and_eq_true] at h3
    have h3a := Nat.le_of_ble_eq_true h3.1
    have h3b : 0 < sz2 := by simpa [Nat.blt_eq] using h3.2
    simp only [Option.some.injEq, Prod.mk.injEq] at h
    obtain ⟨rfl, rfl, rfl⟩ := h
    obtain ⟨cs, hc, b, cap, cur, hβ, hσ, hh, hcm, hcs, ⟨n, hn, hnc⟩, htake⟩ := hT.ok l _ hB
    have hcl := denL_length (show denL V cells = some cs from hc)
    simp only [den, hβ, hσ, capOf, Option.bind_some, Option.map_some, Option.some.injEq, Nat.add_zero, Nat.sub_zero, Int.toNat_natCast] at hv
    subst hv
    have hle : len ≤ n := by
     rw [← hcl, hn] at h3a
     exact Nat.le_of_mul_le_mul_right h3a h3b
    refine ⟨cs.take (len * sz2), denL_take _ hc, ⟨by rw [List.length_take, hcl]; omega, .inr ⟨b, cap, cur, rfl, Nat.zero_le _, hh, by omega, hcm, hcs, ?_⟩⟩, fun h => (by cases h), fun _ _ h => (by cases h), fun l' hl' => ?_⟩
    ·rw [← htake, List.take_take, Nat.min_eq_left (by rw [hcl]; exact h3a)]
    ·cases hl'
     exact ⟨_, hB, rfl, fun n hn => by simpa [SB.blk, hβ, Value.ownBlock] using hn⟩
   ·cases h
  ·cases h
 ·rename_i l len cap
  split at h
  ·rename_i cells ty hB
   split at h
   ·rename_i h1 h2 h3
    have h1 := Nat.eq_of_beq_eq_true h1
    have := Nat.eq_of_beq_eq_true h2
    subst this
    simp only [Bool.and_eq_true] at h3
    have h3a := Nat.le_of_ble_eq_true h3.1
    have h3b := Nat.le_of_ble_eq_true h3.2
    simp only [Option.some.injEq, Prod.mk.injEq] at h
    obtain ⟨rfl, rfl, rfl⟩ := h
    obtain ⟨cs, hc, b, hβ, hh⟩ := hT.ok l _ hB
    have hcl := denL_length (show denL V cells = some cs from hc)
    simp only [den, hβ, Option.map_some, Option.some.injEq, Nat.add_zero] at hv
    subst hv
    have hle : len * sz ≤ cells.length := by rw [← h1]; exact Nat.mul_le_mul_right _ h3a
    refine ⟨cs.take (len * sz), denL_take _ hc, ⟨by rw [List.length_take, hcl]; omega, .inr ⟨b, cap, cs.toArray, rfl, Nat.zero_le _, hh, h3a, by simp only [maxLen]; omega, by simp [hcl, h1], rfl⟩⟩, fun h => (by cases h), fun _ _ h => (by cases h), fun l' hl' => ?_⟩
    cases hl'
    exact ⟨_, hB, rfl, fun n hn => by simpa [SB.blk, hβ, Value.ownBlock] using hn⟩
   ·cases h
  ·cases h
 ·cases h
def optNone : Option Nat → Bool
 | none => true
 | some _ => false
def eAppC (T : Tab) (te : TI) (el : TypeId) (lab : Nat) (x y : SV) : Option Eff :=
 match Nat.blt 0 te.size, Nat.beq te.zero.length te.size with
 | true, true => match seqC T te.size y with
   | some (m, ys) => match x with
     | .slc _ _ _ 0 0 => match Nat.blt 0 m, Nat.ble (m * te.bytes) 140737488355328 && Nat.ble m 9223372036854775807 with
       | true, true => some { val := .slcR lab 0 m 0, new := [.row te.size ys el] }
       | _, _ => none
     | _ => match destC T el te.size x with
       | some (lo, n, xs) => match Nat.blt 0 (n + m) || !optNone lo, Nat.ble ((n + m) * te.bytes) 140737488355328 && Nat.ble (n + m) 9223372036854775807 with
         | true, true => match y with
           | .raw _ => match lo with
             | none => none
             | some _ => some { val := x }
           | _ => some { val := .slcR lab 0 (n + m) 0, new := [.row te.size (xs ++ ys) el], wr := goneL lo }
         | false, true => match y with
           | .raw _ => some { val := x }
           | _ => none
         | _, _ => none
       | none => none
   | none => none
 | _, _ => none
theorem eAppC_ok (hty : TyOK P Γ) {T' : Tab} (hsub : ∀ l B, T' l = some B → T l = some B) (hT : TabOK w0 M V T w) {lab : Nat} (hf : V.fresh lab) {t ty el : TypeId} {te : TI} (ht : P.underlying t = some (.slice el)) (hte : Γ.ty el = some te)
  {x y : SV} {u v : Value} (hx : den V x = some u) (hy : den V y = some v) (he : eAppC T' te el lab x y = some e) : SimV P w0 M V T lab e (Builtin.append_ #[t, t] ty #[u, v]) w := by
 unfold eAppC at he
 split at he
 case h_2 => cases he
 rename_i hs0 hz0
 have hs0 : 0 < te.size := by simpa [Nat.blt_eq] using hs0
 have hz0 := Nat.eq_of_beq_eq_true hz0
 obtain ⟨_, i, z, hi, hisz, hiby, hz, hzero⟩ := hty el te hte
 have hzs : z.cells.size = i.size := by
  have h1 := denL_length (hzero V)
  rw [hisz, ← hz0, ← h1]; simp
 split at he
 case h_2 => cases he
 rename_i m ys hseq
 obtain ⟨cy, hcy, hone, hh⟩ := seqC_ok (hT.sub hsub) hy hseq
 have h1 := ones_ok hone hcy
 rw [← hisz] at hh hs0
 split at he
 ·rename_i l s off
  split at he
  case h_2 => cases he
  rename_i hm hb
  have hm : 0 < m := by simpa [Nat.blt_eq] using hm
  simp only [Bool.and_eq_true] at hb
  have hb1 := Nat.le_of_ble_eq_true hb.1
  have hb2 := Nat.le_of_ble_eq_true hb.2
  simp only [Option.some.injEq] at he
  subst he
  rcases hh with ⟨_, h0, _⟩ | ⟨ad, c, rfl, hl, hcells⟩
  ·omega
  simp only [den, Option.map_eq_some_iff] at hx
  obtain ⟨p, _, rfl⟩ := hx
  have hr := run_append_grow (P := P) w t ty el i z ht hi hz ⟨p.1, p.2 + off, none⟩ 0 0 [] (by simp) (by intro j u hj; simp at hj) ad m c cy hl hcells (by omega) (by simp only [Nat.zero_add]; omega) (growslice_fits (by omega) (by rw [hiby]; simpa using hb1))
  have hgc := grownCap_ge w (0 + m) 0 el
  have hgm : grownCap w (0 + m) 0 el ≤ maxLen := grownCap_le_maxLen w (0 + m) 0 el (by simp only [maxLen]; omega)
  have hrow : (w.drew.alloc (.cells ((([] : List Value)).toArray ++ cy.toArray ++ Builtin.zeroCells z.cells (grownCap w (0 + m) 0 el - (0 + m))) el)).ownsRow 0 el i.size (.slice (some ⟨w.heap.size, 0, none⟩) (0 + m) (grownCap w (0 + m) 0 el)) (0 + m) cy := by
   refine ⟨by simpa using hl, .inr ⟨w.heap.size, _, _, rfl, Nat.zero_le _, heap_alloc_new w.drew _, hgc, hgm, ?_, ?_⟩⟩
   ·simp only [Array.size_append, List.size_toArray, size_zeroCells, hzs, hl, List.length_nil, Nat.zero_add, ← Nat.add_mul]
    congr 1
    simp only [Nat.zero_add] at hgc
    omega
   ·rw [Nat.zero_add, ← hl]; simp
  have hgr : w.grownBy (w.drew.alloc (.cells ((([] : List Value)).toArray ++ cy.toArray ++ Builtin.zeroCells z.cells (grownCap w (0 + m) 0 el - (0 + m))) el)) none := ⟨rfl, rfl, rfl, by simp, fun k hk _ => heap_alloc_old w.drew _ hk⟩
  rw [Nat.zero_add] at hr hrow hgr
  obtain ⟨b, cap, hv', hT'⟩ := hT.appendR (lab := lab) hf (lo := none) (own := none) hcy hrow (by simp) hgr (.inr rfl) (fun _ => rfl) (fun l hl => (by cases hl)) (.slcR lab 0 m 0) []
  refine ⟨_, _, _, hr, Val.put2_ext hf lab (Nat.le_refl _) (by omega) _ _, ?_, by rw [← hisz]; exact hT'⟩
  simp [den, Val.put2, Val.put, Val.putσ, capOf, hv']
 ·split at he
  case h_2 => cases he
  rename_i lo n xs hdst
  obtain ⟨cx, hcx, hrow, hnone, hsome, hlo⟩ := destC_ok (hT.sub hsub) hx hdst
  rw [← hisz] at hrow
  have hlo' : ∀ l, lo = some l → ∃ B, T l = some B ∧ B.owned = true ∧ ∀ n, u.ownBlock = some n → B.blk V l = some n := fun l hl => by
   obtain ⟨B, h1, h2, h3⟩ := hlo l hl; exact ⟨B, hsub l B h1, h2, h3⟩
  have keep : ∀ {q : Value}, y = .raw q → SimV P w0 M V T lab { val := x } (Builtin.append_ #[t, t] ty #[u, v]) w := by
   intro q hq
   subst hq
   unfold seqC at hseq
   split at hseq <;> first | (cases hseq; done) | skip
   all_goals first
    | (rename_i heq; cases heq; done)
    | (rename_i heq; cases heq; simp only [den, Option.some.injEq] at hy; subst hy; exact simV_pure ⟨u, run_append_owned_none (P := P) (w := w) 0 t ty el i i.size ht hi u n _ hrow, hx, rfl, rfl⟩ hT)
    | (simp only [den, Option.some.injEq] at hy; subst hy; exact simV_pure ⟨u, run_append_owned_none (P := P) (w := w) 0 t ty el i i.size ht hi u n _ hrow, hx, rfl, rfl⟩ hT)
  split at he
  ·rename_i hpos hb
   simp only [Bool.and_eq_true] at hb
   have hb1 := Nat.le_of_ble_eq_true hb.1
   have hb2 := Nat.le_of_ble_eq_true hb.2
   split at he
   ·split at he
    ·cases he
    ·simp only [Option.some.injEq] at he
     subst he
     exact keep rfl
   ·rename_i hnr
    simp only [Option.some.injEq] at he
    subst he
    rcases hh with ⟨rfl, rfl, rfl⟩ | ⟨ad, c, rfl, hl, hcells⟩
    ·exfalso
     have : ∀ s : SV, den V s = some (.slice none 0 0) → seqC T' te.size s = some (0, ys) → ∃ q, s = .raw q := by
      intro s hs1 hs2
      unfold seqC at hs2
      split at hs2
      ·simp only [den, Option.map_eq_some_iff] at hs1
       obtain ⟨p, _, hp⟩ := hs1
       cases hp
      ·simp only [den, Option.map_eq_some_iff, Option.bind_eq_some_iff] at hs1
       obtain ⟨p, _, c, _, hp⟩ := hs1
       cases hp
      ·exact ⟨_, rfl⟩
      ·cases hs2
     obtain ⟨q, hq⟩ := this y hy hseq
     exact hnr q hq
    ·obtain ⟨v', w', hr, hrow', hgr, hnil⟩ := run_append_own (P := P) w 0 t ty el i z i.size i.bytes ht hi hz rfl rfl hzs hs0 u n cx hrow ad m c cy hl hcells h1 (by simp only [maxLen]; omega) (by rw [hiby]; exact hb1) (Nat.zero_le _)
     have hblk := append_blk (P := P) ht hi hz hrow rfl hl hcells h1 (by simp only [maxLen]; omega) (by rw [hiby]; exact hb1) hr
     have hne : v' ≠ .slice none 0 0 := by
      intro h
      obtain ⟨h2, h3⟩ := hnil.1 h
      cases hlo0 : lo with
      | none =>
        simp only [hlo0, optNone, Bool.not_true, Bool.or_false] at hpos
        have : 0 < n + m := by simpa [Nat.blt_eq] using hpos
        subst h2
        rcases hrow.2 with ⟨_, h4⟩ | ⟨_, _, _, h4, _⟩
        ·omega
        ·cases h4
      | some l => exact hsome l hlo0 h2
     obtain ⟨b, cap, hv', hT'⟩ := hT.appendR (lab := lab) hf (lo := lo) (own := u.ownBlock) (denL_append hcx hcy) hrow' hne hgr hblk (fun h => by rw [hnone h]; rfl) hlo' (.slcR lab 0 (n + m) 0) []
     refine ⟨_, _, _, hr, Val.put2_ext hf lab (Nat.le_refl _) (by omega) _ _, ?_, by rw [← hisz]; exact hT'⟩
     simp [den, Val.put2, Val.put, Val.putσ, capOf, hv']
  ·split at he
   ·simp only [Option.some.injEq] at he
    subst he
    exact keep rfl
   ·cases he
  ·cases he
def isX (T : Tab) : SV → Bool
 | .buf l => match T l with
   | some (.rowx _ _ _) => true
   | _ => false
 | _ => false
def rdX (T : Tab) (sz : Nat) : SV → Option Nat
 | .buf l => match T l with
   | some (.rowx sz' n _) => match Nat.beq sz' sz with
     | true => some n
     | false => none
   | _ => none
 | v => match seqC T sz v with
   | some (m, _) => some m
   | none => none
def dsX (T : Tab) (el : TypeId) (sz : Nat) : SV → Option (Option Nat × Nat)
 | .buf l => match T l with
   | some (.rowx sz' n ty) => match Nat.beq sz' sz && Nat.beq ty el with
     | true => some (some l, n)
     | false => none
   | _ => none
 | v => match destC T el sz v with
   | some (lo, n, xs) => match onesB xs with
     | true => some (lo, n)
     | false => none
   | none => none
def eAppX (T : Tab) (te : TI) (el : TypeId) (lab : Nat) (x y : SV) : Option Eff :=
 match isX T x || (isX T y || Nat.blt 1 te.size), Nat.blt 0 te.size && Nat.beq te.zero.length te.size, dsX T el te.size x, rdX T te.size y with
 | true, true, some (lo, n), some m => some { obl := [(n + m) * te.bytes ≤ 140737488355328 ∧ n + m ≤ 9223372036854775807], val := .buf lab, new := [.rowx te.size (n + m) el], wr := goneL lo }
 | _, _, _, _ => none
theorem rdX_ok {sz : Nat} {v : SV} {x : Value} {m : Nat} (hT : TabOK w0 M V T w) (hv : den V v = some x) (h : rdX T sz v = some m) :
  (x = .slice none 0 0 ∧ m = 0) ∨ ∃ (ad : Addr) (c : Nat) (cy : List Value), x = .slice (some ad) m c ∧ cy.length = m * sz ∧ (∀ (j : Nat) (u : Value), cy[j]? = some u → w.cell? (ad.add j) = some u) ∧ ∀ q ∈ cy, q.oneCell' = true := by
 have gen : ∀ v : SV, den V v = some x → (match seqC T sz v with | some (m, _) => some m | none => none) = some m → (x = .slice none 0 0 ∧ m = 0) ∨ ∃ (ad : Addr) (c : Nat) (cy : List Value), x = .slice (some ad) m c ∧ cy.length = m * sz ∧ (∀ (j : Nat) (u : Value), cy[j]? = some u → w.cell? (ad.add j) = some u) ∧ ∀ q ∈ cy, q.oneCell' = true := by
  intro v hv h
  split at h
  ·rename_i m' ys hs
   cases h
   obtain ⟨cy, hcy, hone, hh⟩ := seqC_ok hT hv hs
   have h1 := ones_ok hone hcy
   rcases hh with ⟨rfl, rfl, _⟩ | ⟨ad, c, rfl, hl, hcells⟩
   ·exact .inl ⟨rfl, rfl⟩
   ·exact .inr ⟨ad, c, cy, rfl, hl, hcells, h1⟩
  ·cases h
 unfold rdX at h
 split at h
 ·rename_i l
  split at h
  ·rename_i sz' n ty hB
   split at h
   case h_2 => cases h
   rename_i hsz
   cases h
   have hsz := Nat.eq_of_beq_eq_true hsz
   subst hsz
   obtain ⟨cs, hc, u, us, hσ, hrow, hq⟩ := hT.ok l _ hB
   simp only [den, hσ, Option.some.injEq] at hv
   subst hv
   rcases hrow.2 with ⟨rfl, rfl⟩ | ⟨g, cap, cur, rfl, _, hh, hle, _, hcs, htake⟩
   ·exact .inl ⟨rfl, rfl⟩
   ·refine .inr ⟨⟨g, 0, none⟩, cap, us, rfl, hrow.1, fun j u hj => ?_, hq⟩
    rw [← htake, List.getElem?_take] at hj
    split at hj
    ·have : w.cell? ⟨g, 0 + j, none⟩ = some u := by rw [cell_of_row w g _ _ _ _ hh]; simpa using hj
     rw [add_addr]
     exact this
    ·cases hj
  ·cases h
 ·exact gen _ hv h
theorem dsX_ok {el : TypeId} {sz : Nat} {v : SV} {x : Value} {lo : Option Nat} {n : Nat} (hT : TabOK w0 M V T w) (hv : den V v = some x) (h : dsX T el sz v = some (lo, n)) :
  ∃ cs : List Value, w.ownsRow 0 el sz x n cs ∧ (∀ q ∈ cs, q.oneCell' = true) ∧ (lo = none → x.ownBlock = none) ∧ ∀ l, lo = some l → ∃ B, T l = some B ∧ B.owned = true ∧ ∀ n, x.ownBlock = some n → B.blk V l = some n := by
 have gen : ∀ v : SV, den V v = some x → (match destC T el sz v with | some (lo, n, xs) => (match onesB xs with | true => some (lo, n) | false => none) | none => none) = some (lo, n) → ∃ cs : List Value, w.ownsRow 0 el sz x n cs ∧ (∀ q ∈ cs, q.oneCell' = true) ∧ (lo = none → x.ownBlock = none) ∧ ∀ l, lo = some l → ∃ B, T l = some B ∧ B.owned = true ∧ ∀ n, x.ownBlock = some n → B.blk V l = some n := by
  intro v hv h
  split at h
  ·rename_i lo' n' xs hd
   split at h
   case h_2 => cases h
   rename_i hone
   cases h
   obtain ⟨cs, hcs, hrow, hn, _, hl⟩ := destC_ok hT hv hd
   exact ⟨cs, hrow, ones_ok hone hcs, fun e => by rw [hn e]; rfl, hl⟩
  ·cases h
 unfold dsX at h
 split at h
 ·rename_i l
  split at h
  ·rename_i sz' n' ty hB
   split at h
   case h_2 => cases h
   rename_i hck
   simp only [Bool.and_eq_true] at hck
   cases h
   have h1 := Nat.eq_of_beq_eq_true hck.1
   have h2 := Nat.eq_of_beq_eq_true hck.2
   subst h1 h2
   obtain ⟨cs, hc, u, us, hσ, hrow, hq⟩ := hT.ok l _ hB
   simp only [den, hσ, Option.some.injEq] at hv
   subst hv
   exact ⟨us, hrow, hq, fun e => by (cases e), fun l' e => by cases e; exact ⟨_, hB, rfl, fun n hn => by simp [SB.blk, hσ, hn]⟩⟩
  ·cases h
 ·exact gen _ hv h
theorem eAppX_ok (hty : TyOK P Γ) {T' : Tab} (hsub : ∀ l B, T' l = some B → T l = some B) (hT : TabOK w0 M V T w) {lab : Nat} (hf : V.fresh lab) {t ty el : TypeId} {te : TI} (ht : P.underlying t = some (.slice el)) (hte : Γ.ty el = some te)
  {x y : SV} {u v : Value} (hx : den V x = some u) (hy : den V y = some v) (he : eAppX T' te el lab x y = some e) (ho : ∀ q ∈ e.obl, q) : SimV P w0 M V T lab e (Builtin.append_ #[t, t] ty #[u, v]) w := by
 unfold eAppX at he
 split at he
 case h_2 => cases he
 rename_i lo n m _ hsz hd hr
 cases he
 simp only [Bool.and_eq_true] at hsz
 have hs0 : 0 < te.size := by simpa [Nat.blt_eq] using hsz.1
 have hz0 := Nat.eq_of_beq_eq_true hsz.2
 obtain ⟨_, i, z, hi, hisz, hiby, hz, hzero⟩ := hty el te hte
 have hzs : z.cells.size = i.size := by
  have h1 := denL_length (hzero V)
  rw [hisz, ← hz0, ← h1]; simp
 obtain ⟨hb1, hb2⟩ := ho _ List.mem_cons_self
 obtain ⟨cx, hrow, hox, hnone, hlo⟩ := dsX_ok (hT.sub hsub) hx hd
 have hlo' : ∀ l, lo = some l → ∃ B, T l = some B ∧ B.owned = true ∧ ∀ n, u.ownBlock = some n → B.blk V l = some n := fun l hl => by
  obtain ⟨B, h1, h2, h3⟩ := hlo l hl; exact ⟨B, hsub l B h1, h2, h3⟩
 rw [← hisz] at hrow hs0
 have hmax : n + m ≤ maxLen := by simp only [maxLen]; omega
 rcases rdX_ok (hT.sub hsub) hy hr with ⟨rfl, rfl⟩ | ⟨ad, c, cy, rfl, hl, hcells, hone⟩
 ·have hrun := run_append_owned_none (P := P) (w := w) 0 t ty el i i.size ht hi u n _ hrow
  refine ⟨V.putσ lab u, u, w, hrun, Val.putσ_ext hf lab (Nat.le_refl _) (by omega) u, by simp [den, Val.putσ], ?_⟩
  have hok : okB (V.putσ lab u) w lab (.rowx te.size (n + 0) el) := ⟨[], rfl, u, cx, by simp [Val.putσ], by rw [← hisz]; exact hrow, hox⟩
  refine hT.appendG hf hok (fun n hb => by simpa [SB.blk, Val.putσ] using hb) ⟨rfl, rfl, rfl, Nat.le_refl _, fun _ _ _ => rfl⟩ (.inl rfl) hnone hlo' _ _
 ·rw [← hisz] at hl
  obtain ⟨v', w', hrun, hrow', hgr, _⟩ := run_append_own (P := P) w 0 t ty el i z i.size i.bytes ht hi hz rfl rfl hzs hs0 u n cx hrow ad m c cy hl hcells hone hmax (by rw [hiby]; exact hb1) (Nat.zero_le _)
  have hblk := append_blk (P := P) ht hi hz hrow rfl hl hcells hone hmax (by rw [hiby]; exact hb1) hrun
  refine ⟨V.putσ lab v', v', w', hrun, Val.putσ_ext hf lab (Nat.le_refl _) (by omega) v', by simp [den, Val.putσ], ?_⟩
  have hok : okB (V.putσ lab v') w' lab (.rowx te.size (n + m) el) := ⟨[], rfl, v', cx ++ cy, by simp [Val.putσ], by rw [← hisz]; exact hrow', fun q hq => ?_⟩
  refine hT.appendG hf hok (fun n hb => by simpa [SB.blk, Val.putσ] using hb) hgr hblk hnone hlo' _ _
  rcases List.mem_append.1 hq with hq | hq
  ·exact hox q hq
  ·exact hone q hq
end Ops
end Go.Proofs.YtjomfjihopegmaaGreatDoor.Sx
end
