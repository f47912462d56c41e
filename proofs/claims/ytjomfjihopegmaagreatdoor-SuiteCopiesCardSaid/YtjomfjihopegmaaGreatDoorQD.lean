/- The symbolic executor, thirty-sixth text: a slice of the function's own as one whose room behind is not looked at any more. -/
import Derived.IntWalk
import Derived.ProofKit
import Derived.OpenShut
import Derived.Test.YtjomfjihopegmaaGreatDoorProg
import Derived.KernelRfl
import Derived.Test.YtjomfjihopegmaaGreatDoorQC
section
open Go
namespace Go.Proofs.YtjomfjihopegmaaGreatDoor.Sx
theorem setSame {α : Type} (tm : Array α) (t : Nat) (d : α) : tm.setIfInBounds t (tm.getD t d) = tm := by
 apply Array.ext
 ·simp
 ·intro i h1 h2
  rw [Array.getElem_setIfInBounds (by simpa using h1)]
  split
  ·rename_i e; subst e; simp [Array.getD_eq_getD_getElem?, h2]
  ·rfl
theorem Act.put_same (a : Act) (t : Tmp) : a.put (some t) (a.eval (.tmp t)) = a := by
 obtain ⟨tm, df⟩ := a
 show Act.mk (tm.setIfInBounds t (tm.getD t undef)) df = _
 rw [setSame]
section
variable {w0 w : World} {M : Nat → Prop} {V : Val} {T : Tab} {lab : Nat}
theorem TabOK.close (h : TabOK w0 M V T w) (hf : V.fresh lab) (hlab : ∀ k, lab ≤ k → T k = none) {l cap n m : Nat} {cells : List SV} {el : TypeId} (hl : T l = some (.own cells el)) (hc : cells.length = cap) (hm : m ≤ cap) (hcap : cap ≤ 1000000) {lb : Nat} {cs : List SV} {ty : TypeId} {i : Nat}
  (hb : T lb = some (.own cs ty)) (hi : cs[i]? = some (.slc l true 0 n cap)) (hne : l ≠ lb) (v : SV) :
  ∃ V', V.ext lab V' ∧ TabOK w0 M V' (upd T lab { val := v, new := [.row 1 (cells.take m) el], wr := [(l, .gone), (lb, .own (cs.set i (.slcR lab 0 n 0)) ty)] }) w := by
 obtain ⟨us, hus, b, hβ, hh⟩ := h.ok l _ hl
 obtain ⟨xs, hxs, b2, hβ2, hh2⟩ := h.ok lb _ hb
 have hlt : l < lab := Nat.lt_of_not_le fun q => by rw [hlab l q] at hl; cases hl
 have hltb : lb < lab := Nat.lt_of_not_le fun q => by rw [hlab lb q] at hb; cases hb
 have hext : V.ext lab ((V.put lab (b, 0)).putσ lab (.int .i64 (cap : Nat))) := by
  have h1 := Val.put_ext hf lab (Nat.le_refl _) (by omega) (b, 0)
  refine ⟨⟨fun k p hp => h1.1.1 k p hp, fun k p hp => ?_⟩, fun k hk => ⟨(h1.2 k hk).1, ?_⟩⟩
  ·simp only [Val.putσ]
   by_cases e : k = lab
   ·subst e; rw [(hf k (Nat.le_refl _) (by omega)).2] at hp; cases hp
   ·rw [if_neg e]; exact hp
  ·simp only [Val.putσ]
   rw [if_neg (by omega)]
   rfl
 refine ⟨_, hext, ?_⟩
 obtain ⟨V', hV'⟩ : ∃ V', V' = (V.put lab (b, 0)).putσ lab (.int .i64 (cap : Nat)) := ⟨_, rfl⟩
 rw [← hV'] at hext ⊢
 have e1 : V'.β lab = some (b, 0) := by rw [hV']; simp [Val.put, Val.putσ]
 have e2 : V'.σ lab = some (.int .i64 (cap : Nat)) := by rw [hV']; simp [Val.putσ]
 have hulen : us.length = cap := by rw [denL_length hus, hc]
 have hbb : b ≠ b2 := by
  intro e
  exact h.dist l _ lb _ b hne hl hb rfl (by simp [SB.blk, hβ]) (by simp [SB.blk, hβ2, e])
 have hset : denL V' (cs.set i (.slcR lab 0 n 0)) = some xs := by
  have hx1 : denL V' cs = some xs := denL_mono hext.1 hxs
  obtain ⟨x, hx2, hx3⟩ := denL_get hx1 i _ hi
  have hx4 : den V' (.slcR lab 0 n 0) = some x := by
   simp only [den, hext.1.1 _ _ hβ, Option.map_some, Option.some.injEq] at hx3
   rw [← hx3]
   simp [den, e1, e2, capOf]
  have gen : ∀ (cs : List SV) (xs : List Value) (i : Nat), denL V' cs = some xs → xs[i]? = some x → denL V' (cs.set i (.slcR lab 0 n 0)) = some xs := by
   intro cs
   induction cs with
   | nil => intro xs i h1 h2; simpa using h1
   | cons c r ih =>
     intro xs i h1 h2
     simp only [denL, Option.map_eq_some_iff, Option.bind_eq_some_iff] at h1
     obtain ⟨y, hy, ys, hys, rfl⟩ := h1
     cases i with
     | zero =>
       simp only [List.getElem?_cons_zero, Option.some.injEq] at h2
       subst h2
       simp only [List.set_cons_zero, denL, hx4, hys, Option.bind_some, Option.map_some]
     | succ i =>
       simp only [List.getElem?_cons_succ] at h2
       simp only [List.set_cons_succ, denL, hy, ih ys i hys h2, Option.bind_some, Option.map_some]
  exact gen cs xs i hx1 hx2
 refine h.step (N := fun k => if k = lab then some (.row 1 (cells.take m) el) else if k = l then some .gone else if k = lb then some (.own (cs.set i (.slcR lab 0 n 0)) ty) else none) hext.1 (fun k C hk => ?_) (fun k C hk => ?_) (fun k C p hk hp => ?_) (fun k C k' C' p hne' hk hk' ho hp => ?_) (Nat.le_refl _) (fun _ _ _ => rfl) rfl rfl rfl
 ·simp only [upd, Eff.tab, newL, List.cons_append, List.nil_append] at hk
  by_cases k1 : l = k
  ·subst k1
   rw [look_cons_eq] at hk
   left
   simp only [if_neg (show ¬ l = lab by omega), if_true]
   simpa using hk
  ·rw [look_cons_ne k1] at hk
   by_cases k2 : lb = k
   ·subst k2
    rw [look_cons_eq] at hk
    left
    simp only [if_neg (show ¬ lb = lab by omega), if_neg (fun q => hne (Eq.symm q)), if_true]
    simpa using hk
   ·rw [look_cons_ne k2] at hk
    by_cases k3 : lab = k
    ·subst k3; rw [look_cons_eq] at hk; left; simpa using hk
    ·rw [look_cons_ne k3] at hk
     right
     simp only [look] at hk
     exact ⟨by rw [if_neg (fun q => k3 q.symm), if_neg (fun q => k1 q.symm), if_neg (fun q => k2 q.symm)], hk⟩
 ·by_cases k1 : k = lab
  ·rw [if_pos k1] at hk
   cases hk
   subst k1
   refine ⟨us.take m, by simp only [SB.cells]; exact denL_mono hext.1 (denL_take m hus), b, cap, us.toArray, e1, e2, hh, ?_, by simp [hulen], ⟨m, by simp [hulen]; omega, hm⟩, by simp⟩
   have : (1000000 : Nat) ≤ maxLen := by decide
   omega
  ·rw [if_neg k1] at hk
   by_cases k2 : k = l
   ·rw [if_pos k2] at hk; cases hk; exact ⟨[], rfl, trivial⟩
   ·rw [if_neg k2] at hk
    by_cases k3 : k = lb
    ·rw [if_pos k3] at hk
     cases hk
     subst k3
     exact ⟨xs, hset, b2, hext.1.1 _ _ hβ2, hh2⟩
    ·rw [if_neg k3] at hk; cases hk
 ·by_cases k1 : k = lab
  ·rw [if_pos k1] at hk
   cases hk
   subst k1
   simp only [SB.blk, e1, Option.map_some, Option.some.injEq] at hp
   subst hp
   right; left
   exact ⟨l, _, hl, rfl, by simp [SB.blk, hβ], by simp [if_neg (show ¬ l = k by omega)]⟩
  ·rw [if_neg k1] at hk
   by_cases k2 : k = l
   ·rw [if_pos k2] at hk; cases hk; cases hp
   ·rw [if_neg k2] at hk
    by_cases k3 : k = lb
    ·rw [if_pos k3] at hk
     cases hk
     subst k3
     simp only [SB.blk, hext.1.1 _ _ hβ2, Option.map_some, Option.some.injEq] at hp
     subst hp
     right; left
     exact ⟨k, _, hb, rfl, by simp [SB.blk, hβ2], by simp [if_neg k1, if_neg k2]⟩
    ·rw [if_neg k3] at hk; cases hk
 ·have blk : ∀ k C p, (if k = lab then some (SB.row 1 (cells.take m) el) else if k = l then some .gone else if k = lb then some (.own (cs.set i (.slcR lab 0 n 0)) ty) else none) = some C → C.blk V' k = some p → (k = lab ∧ p = b) ∨ (k = lb ∧ p = b2) := by
   intro k C p hk hp
   by_cases k1 : k = lab
   ·rw [if_pos k1] at hk
    cases hk
    subst k1
    simp only [SB.blk, e1, Option.map_some, Option.some.injEq] at hp
    exact .inl ⟨rfl, hp.symm⟩
   ·rw [if_neg k1] at hk
    by_cases k2 : k = l
    ·rw [if_pos k2] at hk; cases hk; cases hp
    ·rw [if_neg k2] at hk
     by_cases k3 : k = lb
     ·rw [if_pos k3] at hk
      cases hk
      subst k3
      simp only [SB.blk, hext.1.1 _ _ hβ2, Option.map_some, Option.some.injEq] at hp
      exact .inr ⟨rfl, hp.symm⟩
     ·rw [if_neg k3] at hk; cases hk
  intro hp'
  rcases blk k C p hk hp with ⟨r1, r2⟩ | ⟨r1, r2⟩ <;> rcases blk k' C' p hk' hp' with ⟨r3, r4⟩ | ⟨r3, r4⟩
  ·omega
  ·exact hbb (r2.symm.trans r4)
  ·exact hbb (r4.symm.trans r2)
  ·omega
theorem TabOK.closeT (h : TabOK w0 M V T w) (hf : V.fresh lab) (hlab : ∀ k, lab ≤ k → T k = none) {l cap n m : Nat} {cells : List SV} {el : TypeId} (hl : T l = some (.own cells el)) (hc : cells.length = cap) (hm : m ≤ cap) (hcap : cap ≤ 1000000) {x : Value} (hx : den V (.slc l true 0 n cap) = some x) :
  ∃ V', V.ext lab V' ∧ den V' (.slcR lab 0 n 0) = some x ∧ TabOK w0 M V' (upd T lab { val := .slcR lab 0 n 0, new := [.row 1 (cells.take m) el], wr := [(l, .gone)] }) w := by
 obtain ⟨us, hus, b, hβ, hh⟩ := h.ok l _ hl
 have hlt : l < lab := Nat.lt_of_not_le fun q => by rw [hlab l q] at hl; cases hl
 have hext : V.ext lab ((V.put lab (b, 0)).putσ lab (.int .i64 (cap : Nat))) := by
  have h1 := Val.put_ext hf lab (Nat.le_refl _) (by omega) (b, 0)
  refine ⟨⟨fun k p hp => h1.1.1 k p hp, fun k p hp => ?_⟩, fun k hk => ⟨(h1.2 k hk).1, ?_⟩⟩
  ·simp only [Val.putσ]
   by_cases e : k = lab
   ·subst e; rw [(hf k (Nat.le_refl _) (by omega)).2] at hp; cases hp
   ·rw [if_neg e]; exact hp
  ·simp only [Val.putσ]
   rw [if_neg (by omega)]
   rfl
 refine ⟨_, hext, ?_⟩
 obtain ⟨V', hV'⟩ : ∃ V', V' = (V.put lab (b, 0)).putσ lab (.int .i64 (cap : Nat)) := ⟨_, rfl⟩
 rw [← hV'] at hext ⊢
 have e1 : V'.β lab = some (b, 0) := by rw [hV']; simp [Val.put, Val.putσ]
 have e2 : V'.σ lab = some (.int .i64 (cap : Nat)) := by rw [hV']; simp [Val.putσ]
 have hulen : us.length = cap := by rw [denL_length hus, hc]
 refine ⟨?_, ?_⟩
 ·simp only [den, hβ, Option.map_some, Option.some.injEq] at hx
  rw [← hx]
  simp [den, e1, e2, capOf]
 refine h.step (N := fun k => if k = lab then some (.row 1 (cells.take m) el) else if k = l then some .gone else none) hext.1 (fun k C hk => ?_) (fun k C hk => ?_) (fun k C p hk hp => ?_) (fun k C k' C' p hne' hk hk' ho hp => ?_) (Nat.le_refl _) (fun _ _ _ => rfl) rfl rfl rfl
 ·simp only [upd, Eff.tab, newL, List.cons_append, List.nil_append] at hk
  by_cases k1 : l = k
  ·subst k1
   rw [look_cons_eq] at hk
   left
   simp only [if_neg (show ¬ l = lab by omega), if_true]
   simpa using hk
  ·rw [look_cons_ne k1] at hk
   by_cases k3 : lab = k
   ·subst k3; rw [look_cons_eq] at hk; left; simpa using hk
   ·rw [look_cons_ne k3] at hk
    right
    simp only [look] at hk
    exact ⟨by rw [if_neg (fun q => k3 q.symm), if_neg (fun q => k1 q.symm)], hk⟩
 ·by_cases k1 : k = lab
  ·rw [if_pos k1] at hk
   cases hk
   subst k1
   refine ⟨us.take m, by simp only [SB.cells]; exact denL_mono hext.1 (denL_take m hus), b, cap, us.toArray, e1, e2, hh, ?_, by simp [hulen], ⟨m, by simp [hulen]; omega, hm⟩, by simp⟩
   have : (1000000 : Nat) ≤ maxLen := by decide
   omega
  ·rw [if_neg k1] at hk
   by_cases k2 : k = l
   ·rw [if_pos k2] at hk; cases hk; exact ⟨[], rfl, trivial⟩
   ·rw [if_neg k2] at hk; cases hk
 ·by_cases k1 : k = lab
  ·rw [if_pos k1] at hk
   cases hk
   subst k1
   simp only [SB.blk, e1, Option.map_some, Option.some.injEq] at hp
   subst hp
   right; left
   exact ⟨l, _, hl, rfl, by simp [SB.blk, hβ], by simp [if_neg (show ¬ l = k by omega)]⟩
  ·rw [if_neg k1] at hk
   by_cases k2 : k = l
   ·rw [if_pos k2] at hk; cases hk; cases hp
   ·rw [if_neg k2] at hk; cases hk
 ·intro hp'
  by_cases k1 : k = lab
  ·by_cases k2 : k' = lab
   ·omega
   ·rw [if_neg k2] at hk'
    by_cases k3 : k' = l
    ·rw [if_pos k3] at hk'; cases hk'; cases hp'
    ·rw [if_neg k3] at hk'; cases hk'
  ·rw [if_neg k1] at hk
   by_cases k3 : k = l
   ·rw [if_pos k3] at hk; cases hk; cases ho
   ·rw [if_neg k3] at hk; cases hk
theorem TabOK.closeB (h : TabOK w0 M V T w) (hf : V.fresh lab) (hlab : ∀ k, lab ≤ k → T k = none) {l cap n : Nat} {cells : List SV} {el : TypeId} {k0 : IntKind} {ns : List Int} (hl : T l = some (.own cells el)) (hc : cells.length = cap) (hn : n ≤ cap) (hcap : cap ≤ 1000000) (hk : intsK k0 (cells.take n) = some ns) {x : Value} (hx : den V (.slc l true 0 n cap) = some x) :
  ∃ V', V.ext lab V' ∧ den V' (.buf lab) = some x ∧ TabOK w0 M V' (upd T lab { val := .buf lab, new := [.rowi k0 ns el], wr := [(l, .gone)] }) w := by
 obtain ⟨us, hus, b, hβ, hh⟩ := h.ok l _ hl
 have hlt : l < lab := Nat.lt_of_not_le fun q => by rw [hlab l q] at hl; cases hl
 have hext := Val.putσ_ext hf lab (Nat.le_refl _) (by omega) x
 have e2 : (V.putσ lab x).σ lab = some x := by simp [Val.putσ]
 have hulen : us.length = cap := by rw [denL_length hus, hc]
 have hx' : x = .slice (some ⟨b, 0, none⟩) n cap := by
  simp only [den, hβ, Option.map_some, Option.some.injEq] at hx
  exact hx.symm
 have htake : us.take n = ns.map (Value.int k0) := by
  have h1 := denL_take n hus
  have h2 := intsK_ok (V := V) hk
  rw [h1] at h2
  exact Option.some.inj h2
 have hnlen : ns.length = n := by
  have := congrArg List.length htake
  simp [hulen] at this
  omega
 refine ⟨_, hext, by simp [den, e2], ?_⟩
 refine h.step (N := fun k => if k = lab then some (.rowi k0 ns el) else if k = l then some .gone else none) hext.1 (fun k C hk => ?_) (fun k C hk => ?_) (fun k C p hk hp => ?_) (fun k C k' C' p hne' hk hk' ho hp => ?_) (Nat.le_refl _) (fun _ _ _ => rfl) rfl rfl rfl
 ·simp only [upd, Eff.tab, newL, List.cons_append, List.nil_append] at hk
  by_cases k1 : l = k
  ·subst k1
   rw [look_cons_eq] at hk
   left
   simp only [if_neg (show ¬ l = lab by omega), if_true]
   simpa using hk
  ·rw [look_cons_ne k1] at hk
   by_cases k3 : lab = k
   ·subst k3; rw [look_cons_eq] at hk; left; simpa using hk
   ·rw [look_cons_ne k3] at hk
    right
    simp only [look] at hk
    exact ⟨by rw [if_neg (fun q => k3 q.symm), if_neg (fun q => k1 q.symm)], hk⟩
 ·by_cases k1 : k = lab
  ·rw [if_pos k1] at hk
   cases hk
   subst k1
   refine ⟨_, rfl, x, e2, by simp, .inr ⟨b, cap, us.toArray, ?_, Nat.zero_le _, hh, by rw [hnlen]; exact hn, ?_, by simp [hulen], ?_⟩⟩
   ·rw [hx', hnlen]
   ·have : (1000000 : Nat) ≤ maxLen := by decide
    omega
   ·rw [hnlen, ← htake]; simp
  ·rw [if_neg k1] at hk
   by_cases k2 : k = l
   ·rw [if_pos k2] at hk; cases hk; exact ⟨[], rfl, trivial⟩
   ·rw [if_neg k2] at hk; cases hk
 ·by_cases k1 : k = lab
  ·rw [if_pos k1] at hk
   cases hk
   subst k1
   simp only [SB.blk, e2, Option.bind_some] at hp
   rw [hx'] at hp
   simp only [Value.ownBlock, Option.some.injEq] at hp
   subst hp
   right; left
   exact ⟨l, _, hl, rfl, by simp [SB.blk, hβ], by simp [if_neg (show ¬ l = k by omega)]⟩
  ·rw [if_neg k1] at hk
   by_cases k2 : k = l
   ·rw [if_pos k2] at hk; cases hk; cases hp
   ·rw [if_neg k2] at hk; cases hk
 ·intro hp'
  by_cases k1 : k = lab
  ·by_cases k2 : k' = lab
   ·omega
   ·rw [if_neg k2] at hk'
    by_cases k3 : k' = l
    ·rw [if_pos k3] at hk'; cases hk'; cases hp'
    ·rw [if_neg k3] at hk'; cases hk'
  ·rw [if_neg k1] at hk
   by_cases k3 : k = l
   ·rw [if_pos k3] at hk; cases hk; cases ho
   ·rw [if_neg k3] at hk; cases hk
theorem TabOK.aliasT (hT : TabOK w0 M V T w) (hf : V.fresh lab) {l n : Nat} {k : IntKind} {xs : List Int} (hB : T l = some (.rov k xs)) {x : Value} (hx : den V (.ros l n) = some x) :
  ∃ V', V.ext lab V' ∧ den V' (.ros lab n) = some x ∧ TabOK w0 M V' (upd T lab { val := .ros lab n, new := [.rov k xs] }) w := by
 simp only [den, Option.bind_eq_some_iff] at hx
 obtain ⟨v, hσ, ex⟩ := hx
 obtain ⟨cs, hc, v', hσ', hrow⟩ := hT.ok l _ hB
 rw [hσ] at hσ'
 cases hσ'
 have hext := Val.putσ_ext hf lab (Nat.le_refl _) (by omega) v
 refine ⟨V.putσ lab v, hext, by simp [den, Val.putσ, ex], ?_⟩
 refine hT.step (N := fun m => if m = lab then some (.rov k xs) else none) hext.1 (fun m C hm => ?_) (fun m C hm => ?_) (fun m C q hm hq => ?_) (fun m C m' C' q hne hm hm' ho2 _ => ?_) (Nat.le_refl _) (fun _ _ _ => rfl) rfl rfl rfl
 ·unfold upd Eff.tab at hm
  simp only [newL, List.nil_append, look] at hm
  by_cases e : m = lab
  ·subst e
   left
   simpa using hm
  ·right
   refine ⟨if_neg e, ?_⟩
   have : Nat.beq lab m = false := by
    cases hb2 : Nat.beq lab m with
    | false => rfl
    | true => exact absurd (Nat.eq_of_beq_eq_true hb2).symm e
   simpa [this] using hm
 ·split at hm
  ·rename_i e
   subst e
   cases hm
   exact ⟨cs, hc, v, by simp [Val.putσ], hrow⟩
  ·cases hm
 ·split at hm
  ·rename_i e
   subst e
   cases hm
   refine .inr (.inr ⟨rfl, fun l2 B2 hn2 hl2 ho2 hb2 => ?_⟩)
   simp only [SB.blk, Val.putσ, if_pos, Option.bind_some] at hq
   have hne : l2 ≠ l := fun e => by subst e; rw [hB] at hl2; cases hl2; cases ho2
   exact hT.dist l2 B2 l _ q hne hl2 hB ho2 hb2 (by simp [SB.blk, hσ, hq])
  ·cases hm
 ·split at hm
  ·cases hm; cases ho2
  ·cases hm
theorem denL_set {V : Val} {x : Value} {v : SV} (hv : den V v = some x) : ∀ (cs : List SV) (xs : List Value) (i : Nat), denL V cs = some xs → xs[i]? = some x → denL V (cs.set i v) = some xs
 | [], xs, i, h1, h2 => by simpa using h1
 | c :: r, xs, i, h1, h2 => by
   simp only [denL, Option.map_eq_some_iff, Option.bind_eq_some_iff] at h1
   obtain ⟨y, hy, ys, hys, rfl⟩ := h1
   cases i with
   | zero =>
     simp only [List.getElem?_cons_zero, Option.some.injEq] at h2
     subst h2
     simp only [List.set_cons_zero, denL, hv, hys, Option.bind_some, Option.map_some]
   | succ i =>
     simp only [List.getElem?_cons_succ] at h2
     simp only [List.set_cons_succ, denL, hy, denL_set hv r ys i hys h2, Option.bind_some, Option.map_some]
theorem TabOK.nilC (h : TabOK w0 M V T w) (hf : V.fresh lab) (hlab : ∀ k, lab ≤ k → T k = none) {lb : Nat} {cs : List SV} {ty el : TypeId} {k0 : IntKind} {i : Nat}
  (hb : T lb = some (.own cs ty)) (hi : cs[i]? = some (.raw (.slice none 0 0))) (v : SV) :
  ∃ V', V.ext lab V' ∧ TabOK w0 M V' (upd T lab { val := v, new := [.rowi k0 [] el], wr := [(lb, .own (cs.set i (.buf lab)) ty)] }) w := by
 obtain ⟨xs, hxs, b2, hβ2, hh2⟩ := h.ok lb _ hb
 have hltb : lb < lab := Nat.lt_of_not_le fun q => by rw [hlab lb q] at hb; cases hb
 have hext := Val.putσ_ext hf lab (Nat.le_refl _) (by omega) (.slice none 0 0)
 refine ⟨_, hext, ?_⟩
 have e2 : (V.putσ lab (.slice none 0 0)).σ lab = some (.slice none 0 0) := by simp [Val.putσ]
 have hset : denL (V.putσ lab (.slice none 0 0)) (cs.set i (.buf lab)) = some xs := by
  have hx1 : denL (V.putσ lab (.slice none 0 0)) cs = some xs := denL_mono hext.1 hxs
  obtain ⟨x, hx2, hx3⟩ := denL_get hx1 i _ hi
  simp only [den, Option.some.injEq] at hx3
  exact denL_set (by rw [← hx3]; simp [den, e2]) cs xs i hx1 hx2
 refine h.step (N := fun k => if k = lab then some (.rowi k0 [] el) else if k = lb then some (.own (cs.set i (.buf lab)) ty) else none) hext.1 (fun k C hk => ?_) (fun k C hk => ?_) (fun k C p hk hp => ?_) (fun k C k' C' p hne' hk hk' ho hp => ?_) (Nat.le_refl _) (fun _ _ _ => rfl) rfl rfl rfl
 ·simp only [upd, Eff.tab, newL, List.cons_append, List.nil_append] at hk
  by_cases k2 : lb = k
  ·subst k2
   rw [look_cons_eq] at hk
   left
   simp only [if_neg (show ¬ lb = lab by omega), if_true]
   simpa using hk
  ·rw [look_cons_ne k2] at hk
   by_cases k3 : lab = k
   ·subst k3; rw [look_cons_eq] at hk; left; simpa using hk
   ·rw [look_cons_ne k3] at hk
    right
    simp only [look] at hk
    exact ⟨by rw [if_neg (fun q => k3 q.symm), if_neg (fun q => k2 q.symm)], hk⟩
 ·by_cases k1 : k = lab
  ·rw [if_pos k1] at hk
   cases hk
   subst k1
   exact ⟨[], rfl, _, e2, rfl, .inl ⟨rfl, rfl⟩⟩
  ·rw [if_neg k1] at hk
   by_cases k3 : k = lb
   ·rw [if_pos k3] at hk
    cases hk
    subst k3
    exact ⟨xs, hset, b2, hext.1.1 _ _ hβ2, hh2⟩
   ·rw [if_neg k3] at hk; cases hk
 ·by_cases k1 : k = lab
  ·rw [if_pos k1] at hk
   cases hk
   subst k1
   simp [SB.blk, e2, Value.ownBlock] at hp
  ·rw [if_neg k1] at hk
   by_cases k3 : k = lb
   ·rw [if_pos k3] at hk
    cases hk
    subst k3
    simp only [SB.blk, hext.1.1 _ _ hβ2, Option.map_some, Option.some.injEq] at hp
    subst hp
    right; left
    exact ⟨k, _, hb, rfl, by simp [SB.blk, hβ2], by simp [if_neg k1]⟩
   ·rw [if_neg k3] at hk; cases hk
 ·intro hp'
  by_cases k1 : k = lab
  ·rw [if_pos k1] at hk
   cases hk
   subst k1
   simp [SB.blk, e2, Value.ownBlock] at hp
  ·by_cases k2 : k' = lab
   ·rw [if_pos k2] at hk'
    cases hk'
    subst k2
    simp [SB.blk, e2, Value.ownBlock] at hp'
   ·rw [if_neg k1] at hk
    rw [if_neg k2] at hk'
    by_cases k3 : k = lb
    ·by_cases k4 : k' = lb
     ·omega
     ·rw [if_neg k4] at hk'; cases hk'
    ·rw [if_neg k3] at hk; cases hk
theorem TabOK.nilX (h : TabOK w0 M V T w) (hf : V.fresh lab) (hlab : ∀ k, lab ≤ k → T k = none) {lb : Nat} {cs : List SV} {ty el : TypeId} {sz : Nat} {i : Nat}
  (hb : T lb = some (.own cs ty)) (hi : cs[i]? = some (.raw (.slice none 0 0))) (v : SV) :
  ∃ V', V.ext lab V' ∧ TabOK w0 M V' (upd T lab { val := v, new := [.rowx sz 0 el], wr := [(lb, .own (cs.set i (.buf lab)) ty)] }) w := by
 obtain ⟨xs, hxs, b2, hβ2, hh2⟩ := h.ok lb _ hb
 have hltb : lb < lab := Nat.lt_of_not_le fun q => by rw [hlab lb q] at hb; cases hb
 have hext := Val.putσ_ext hf lab (Nat.le_refl _) (by omega) (.slice none 0 0)
 refine ⟨_, hext, ?_⟩
 have e2 : (V.putσ lab (.slice none 0 0)).σ lab = some (.slice none 0 0) := by simp [Val.putσ]
 have hset : denL (V.putσ lab (.slice none 0 0)) (cs.set i (.buf lab)) = some xs := by
  have hx1 : denL (V.putσ lab (.slice none 0 0)) cs = some xs := denL_mono hext.1 hxs
  obtain ⟨x, hx2, hx3⟩ := denL_get hx1 i _ hi
  simp only [den, Option.some.injEq] at hx3
  exact denL_set (by rw [← hx3]; simp [den, e2]) cs xs i hx1 hx2
 refine h.step (N := fun k => if k = lab then some (.rowx sz 0 el) else if k = lb then some (.own (cs.set i (.buf lab)) ty) else none) hext.1 (fun k C hk => ?_) (fun k C hk => ?_) (fun k C p hk hp => ?_) (fun k C k' C' p hne' hk hk' ho hp => ?_) (Nat.le_refl _) (fun _ _ _ => rfl) rfl rfl rfl
 ·simp only [upd, Eff.tab, newL, List.cons_append, List.nil_append] at hk
  by_cases k2 : lb = k
  ·subst k2
   rw [look_cons_eq] at hk
   left
   simp only [if_neg (show ¬ lb = lab by omega), if_true]
   simpa using hk
  ·rw [look_cons_ne k2] at hk
   by_cases k3 : lab = k
   ·subst k3; rw [look_cons_eq] at hk; left; simpa using hk
   ·rw [look_cons_ne k3] at hk
    right
    simp only [look] at hk
    exact ⟨by rw [if_neg (fun q => k3 q.symm), if_neg (fun q => k2 q.symm)], hk⟩
 ·by_cases k1 : k = lab
  ·rw [if_pos k1] at hk
   cases hk
   subst k1
   exact ⟨[], rfl, _, [], e2, ⟨by simp, .inl ⟨rfl, rfl⟩⟩, fun q hq => by cases hq⟩
  ·rw [if_neg k1] at hk
   by_cases k3 : k = lb
   ·rw [if_pos k3] at hk
    cases hk
    subst k3
    exact ⟨xs, hset, b2, hext.1.1 _ _ hβ2, hh2⟩
   ·rw [if_neg k3] at hk; cases hk
 ·by_cases k1 : k = lab
  ·rw [if_pos k1] at hk
   cases hk
   subst k1
   simp [SB.blk, e2, Value.ownBlock] at hp
  ·rw [if_neg k1] at hk
   by_cases k3 : k = lb
   ·rw [if_pos k3] at hk
    cases hk
    subst k3
    simp only [SB.blk, hext.1.1 _ _ hβ2, Option.map_some, Option.some.injEq] at hp
    subst hp
    right; left
    exact ⟨k, _, hb, rfl, by simp [SB.blk, hβ2], by simp [if_neg k1]⟩
   ·rw [if_neg k3] at hk; cases hk
 ·intro hp'
  by_cases k1 : k = lab
  ·rw [if_pos k1] at hk
   cases hk
   subst k1
   simp [SB.blk, e2, Value.ownBlock] at hp
  ·by_cases k2 : k' = lab
   ·rw [if_pos k2] at hk'
    cases hk'
    subst k2
    simp [SB.blk, e2, Value.ownBlock] at hp'
   ·rw [if_neg k1] at hk
    rw [if_neg k2] at hk'
    by_cases k3 : k = lb
    ·by_cases k4 : k' = lb
     ·omega
     ·rw [if_neg k4] at hk'; cases hk'
    ·rw [if_neg k3] at hk; cases hk
theorem TabOK.nilPX (h : TabOK w0 M V T w) (hf : V.fresh lab) (hlab : ∀ k, lab ≤ k → T k = none) {lb : Nat} {cs : List SV} {ty el : TypeId} {i : Nat}
  (hb : T lb = some (.own cs ty)) (hi : cs[i]? = some (.raw (.slice none 0 0))) (v : SV) :
  ∃ V', V.ext lab V' ∧ TabOK w0 M V' (upd T lab { val := v, new := [.rowp [] el], wr := [(lb, .own (cs.set i (.buf lab)) ty)] }) w := by
 obtain ⟨xs, hxs, b2, hβ2, hh2⟩ := h.ok lb _ hb
 have hltb : lb < lab := Nat.lt_of_not_le fun q => by rw [hlab lb q] at hb; cases hb
 have hext := Val.putσ_ext hf lab (Nat.le_refl _) (by omega) (.slice none 0 0)
 refine ⟨_, hext, ?_⟩
 have e2 : (V.putσ lab (.slice none 0 0)).σ lab = some (.slice none 0 0) := by simp [Val.putσ]
 have hset : denL (V.putσ lab (.slice none 0 0)) (cs.set i (.buf lab)) = some xs := by
  have hx1 : denL (V.putσ lab (.slice none 0 0)) cs = some xs := denL_mono hext.1 hxs
  obtain ⟨x, hx2, hx3⟩ := denL_get hx1 i _ hi
  simp only [den, Option.some.injEq] at hx3
  exact denL_set (by rw [← hx3]; simp [den, e2]) cs xs i hx1 hx2
 refine h.step (N := fun k => if k = lab then some (.rowp [] el) else if k = lb then some (.own (cs.set i (.buf lab)) ty) else none) hext.1 (fun k C hk => ?_) (fun k C hk => ?_) (fun k C p hk hp => ?_) (fun k C k' C' p hne' hk hk' ho hp => ?_) (Nat.le_refl _) (fun _ _ _ => rfl) rfl rfl rfl
 ·simp only [upd, Eff.tab, newL, List.cons_append, List.nil_append] at hk
  by_cases k2 : lb = k
  ·subst k2
   rw [look_cons_eq] at hk
   left
   simp only [if_neg (show ¬ lb = lab by omega), if_true]
   simpa using hk
  ·rw [look_cons_ne k2] at hk
   by_cases k3 : lab = k
   ·subst k3; rw [look_cons_eq] at hk; left; simpa using hk
   ·rw [look_cons_ne k3] at hk
    right
    simp only [look] at hk
    exact ⟨by rw [if_neg (fun q => k3 q.symm), if_neg (fun q => k2 q.symm)], hk⟩
 ·by_cases k1 : k = lab
  ·rw [if_pos k1] at hk
   cases hk
   subst k1
   exact ⟨[], rfl, _, e2, ⟨by simp, .inl ⟨rfl, rfl⟩⟩⟩
  ·rw [if_neg k1] at hk
   by_cases k3 : k = lb
   ·rw [if_pos k3] at hk
    cases hk
    subst k3
    exact ⟨xs, hset, b2, hext.1.1 _ _ hβ2, hh2⟩
   ·rw [if_neg k3] at hk; cases hk
 ·by_cases k1 : k = lab
  ·rw [if_pos k1] at hk
   cases hk
   subst k1
   simp [SB.blk, e2, Value.ownBlock] at hp
  ·rw [if_neg k1] at hk
   by_cases k3 : k = lb
   ·rw [if_pos k3] at hk
    cases hk
    subst k3
    simp only [SB.blk, hext.1.1 _ _ hβ2, Option.map_some, Option.some.injEq] at hp
    subst hp
    right; left
    exact ⟨k, _, hb, rfl, by simp [SB.blk, hβ2], by simp [if_neg k1]⟩
   ·rw [if_neg k3] at hk; cases hk
 ·intro hp'
  by_cases k1 : k = lab
  ·rw [if_pos k1] at hk
   cases hk
   subst k1
   simp [SB.blk, e2, Value.ownBlock] at hp
  ·by_cases k2 : k' = lab
   ·rw [if_pos k2] at hk'
    cases hk'
    subst k2
    simp [SB.blk, e2, Value.ownBlock] at hp'
   ·rw [if_neg k1] at hk
    rw [if_neg k2] at hk'
    by_cases k3 : k = lb
    ·by_cases k4 : k' = lb
     ·omega
     ·rw [if_neg k4] at hk'; cases hk'
    ·rw [if_neg k3] at hk; cases hk
theorem TabOK.nilT (hT : TabOK w0 M V T w) (hf : V.fresh lab) {sz : Nat} {el : TypeId} {x : Value} (hx : den V (.raw (.slice none 0 0)) = some x) :
  ∃ V', V.ext lab V' ∧ den V' (.buf lab) = some x ∧ TabOK w0 M V' (upd T lab { val := .buf lab, new := [.rowx sz 0 el] }) w := by
 simp only [den, Option.some.injEq] at hx
 subst hx
 have hext := Val.putσ_ext hf lab (Nat.le_refl _) (by omega) (.slice none 0 0)
 have e2 : (V.putσ lab (.slice none 0 0)).σ lab = some (.slice none 0 0) := by simp [Val.putσ]
 refine ⟨V.putσ lab (.slice none 0 0), hext, by simp [den, e2], ?_⟩
 refine hT.step (N := fun m => if m = lab then some (.rowx sz 0 el) else none) hext.1 (fun m C hm => ?_) (fun m C hm => ?_) (fun m C q hm hq => ?_) (fun m C m' C' q hne hm hm' ho2 hq => ?_) (Nat.le_refl _) (fun _ _ _ => rfl) rfl rfl rfl
 ·unfold upd Eff.tab at hm
  simp only [newL, List.nil_append, look] at hm
  by_cases e : m = lab
  ·subst e
   left
   simpa using hm
  ·right
   refine ⟨if_neg e, ?_⟩
   have : Nat.beq lab m = false := by
    cases hb2 : Nat.beq lab m with
    | false => rfl
    | true => exact absurd (Nat.eq_of_beq_eq_true hb2).symm e
   simpa [this] using hm
 ·split at hm
  ·rename_i e
   subst e
   cases hm
   exact ⟨[], rfl, _, [], e2, ⟨by simp, .inl ⟨rfl, rfl⟩⟩, fun q hq => by cases hq⟩
  ·cases hm
 ·split at hm
  ·rename_i e
   subst e
   cases hm
   simp [SB.blk, e2, Value.ownBlock] at hq
  ·cases hm
 ·split at hm
  ·rename_i e
   subst e
   cases hm
   simp [SB.blk, e2, Value.ownBlock] at hq
  ·cases hm
theorem TabOK.aliasF (hT : TabOK w0 M V T w) (hf : V.fresh lab) {n : Nat} {x : Value} {d : List Int} (hr : rosV n x = some x) (hF : FrozenRd w0 M x d) :
  ∃ V', V.ext lab V' ∧ den V' (.ros lab n) = some x ∧ TabOK w0 M V' (upd T lab { val := .ros lab n, new := [.rov .u8 d] }) w := by
 have hext := Val.putσ_ext hf lab (Nat.le_refl _) (by omega) x
 refine ⟨V.putσ lab x, hext, by simp [den, Val.putσ, hr], ?_⟩
 refine hT.step (N := fun m => if m = lab then some (.rov .u8 d) else none) hext.1 (fun m C hm => ?_) (fun m C hm => ?_) (fun m C q hm hq => ?_) (fun m C m' C' q hne hm hm' ho2 _ => ?_) (Nat.le_refl _) (fun _ _ _ => rfl) rfl rfl rfl
 ·unfold upd Eff.tab at hm
  simp only [newL, List.nil_append, look] at hm
  by_cases e : m = lab
  ·subst e
   left
   simpa using hm
  ·right
   refine ⟨if_neg e, ?_⟩
   have : Nat.beq lab m = false := by
    cases hb2 : Nat.beq lab m with
    | false => rfl
    | true => exact absurd (Nat.eq_of_beq_eq_true hb2).symm e
   simpa [this] using hm
 ·split at hm
  ·rename_i e
   subst e
   cases hm
   exact ⟨_, rfl, x, by simp [Val.putσ], (hF.keep (M' := fun _ => False) hT.frame fun _ h => h.elim).1⟩
  ·cases hm
 ·split at hm
  ·rename_i e
   subst e
   cases hm
   refine .inr (.inr ⟨rfl, fun l2 B2 hn2 hl2 ho2 hb2 => ?_⟩)
   simp only [SB.blk, Val.putσ, if_pos, Option.bind_some] at hq
   have h1 := hF.2 q hq
   rcases hT.perm l2 B2 q hl2 ho2 hb2 with h2 | h2
   ·omega
   ·exact h1.2 h2
  ·cases hm
 ·split at hm
  ·cases hm; cases ho2
  ·cases hm
theorem TabOK.aliasO (hT : TabOK w0 M V T w) (hf : V.fresh lab) {n : Nat} {x : Value} {d : List Int} (hr : rosV n x = some x) (hF : FrozenRd w0 M x d) :
  ∃ V', V.ext lab V' ∧ den V' (.ros lab n) = some x ∧ TabOK w0 M V' (upd T lab { val := .ros lab n, new := [.rof d] }) w := by
 have hext := Val.putσ_ext hf lab (Nat.le_refl _) (by omega) x
 refine ⟨V.putσ lab x, hext, by simp [den, Val.putσ, hr], ?_⟩
 refine hT.step (N := fun m => if m = lab then some (.rof d) else none) hext.1 (fun m C hm => ?_) (fun m C hm => ?_) (fun m C q hm hq => ?_) (fun m C m' C' q hne hm hm' ho2 _ => ?_) (Nat.le_refl _) (fun _ _ _ => rfl) rfl rfl rfl (fun m C hm => ?_)
 ·unfold upd Eff.tab at hm
  simp only [newL, List.nil_append, look] at hm
  by_cases e : m = lab
  ·subst e
   left
   simpa using hm
  ·right
   refine ⟨if_neg e, ?_⟩
   have : Nat.beq lab m = false := by
    cases hb2 : Nat.beq lab m with
    | false => rfl
    | true => exact absurd (Nat.eq_of_beq_eq_true hb2).symm e
   simpa [this] using hm
 ·split at hm
  ·cases hm; exact ⟨[], rfl, trivial⟩
  ·cases hm
 ·split at hm
  ·cases hm; cases hq
  ·cases hm
 ·split at hm
  ·cases hm; cases ho2
  ·cases hm
 ·split at hm
  ·rename_i e
   subst e
   cases hm
   exact ⟨_, by simp [Val.putσ], hF⟩
  ·cases hm
theorem TabOK.nilpT (hT : TabOK w0 M V T w) (hf : V.fresh lab) {el : TypeId} {x : Value} (hx : den V (.raw (.slice none 0 0)) = some x) :
  ∃ V', V.ext lab V' ∧ den V' (.buf lab) = some x ∧ TabOK w0 M V' (upd T lab { val := .buf lab, new := [.rowp [] el] }) w := by
 simp only [den, Option.some.injEq] at hx
 subst hx
 have hext := Val.putσ_ext hf lab (Nat.le_refl _) (by omega) (.slice none 0 0)
 refine ⟨V.putσ lab (.slice none 0 0), hext, by simp [den, Val.putσ], ?_⟩
 refine hT.step (N := fun m => if m = lab then some (.rowp [] el) else none) hext.1 (fun m C hm => ?_) (fun m C hm => ?_) (fun m C q hm hq => ?_) (fun m C m' C' q hne hm hm' ho2 _ => ?_) (Nat.le_refl _) (fun _ _ _ => rfl) rfl rfl rfl (fun m C hm => ?_)
 ·unfold upd Eff.tab at hm
  simp only [newL, List.nil_append] at hm
  by_cases e : m = lab
  ·subst e
   left
   rw [look_cons_eq] at hm
   rw [if_pos rfl]; exact hm
  ·right
   rw [look_cons_ne (fun q => e q.symm)] at hm
   exact ⟨if_neg e, hm⟩
 ·split at hm
  ·rename_i e
   subst e
   cases hm
   exact ⟨[], rfl, .slice none 0 0, by simp [Val.putσ], World.ownsRow_nil w 0 el 2⟩
  ·cases hm
 ·split at hm
  ·rename_i e
   subst e
   cases hm
   simp [SB.blk, Val.putσ, Value.ownBlock] at hq
  ·cases hm
 ·split at hm
  ·rename_i e
   split at hm'
   ·rename_i e'
    exact absurd (e.trans e'.symm) hne
   ·cases hm'
  ·cases hm
 ·split at hm
  ·cases hm; trivial
  ·cases hm
theorem TabOK.moveP (hT : TabOK w0 M V T w) (hf : V.fresh lab) {l l2 i : Nat} {cs : List SV} {ty el : TypeId} {xs : List (Int × Int)} (hl : T l = some (.own cs ty)) (hc : cs[i]? = some (.buf l2)) (hl2 : T l2 = some (.rowp xs el)) (hlt : l < lab) (hlt2 : l2 < lab) (v : SV) :
  ∃ V', V.ext lab V' ∧ TabOK w0 M V' (upd T lab { val := v, new := [.rowp xs el], wr := [(l, .own (cs.set i (.buf lab)) ty), (l2, .gone)] }) w := by
 obtain ⟨us, hu, b, hβ, hh⟩ := hT.ok l _ hl
 obtain ⟨ps, hps, u, hσ, hrow⟩ := hT.ok l2 _ hl2
 cases hps
 have hu : denL V cs = some us := hu
 have hne : l ≠ l2 := fun e => by subst e; rw [hl] at hl2; cases hl2
 have hext := Val.putσ_ext hf lab (Nat.le_refl _) (by omega) u
 have e1 : (V.putσ lab u).σ lab = some u := by simp [Val.putσ]
 have hset : denL (V.putσ lab u) (cs.set i (.buf lab)) = some us := by
  have hx1 : denL (V.putσ lab u) cs = some us := denL_mono hext.1 hu
  obtain ⟨x, hx2, hx3⟩ := denL_get hx1 i _ hc
  simp only [den, hext.1.2 _ _ hσ, Option.some.injEq] at hx3
  exact denL_set (by rw [← hx3]; simp [den, e1]) cs us i hx1 hx2
 refine ⟨_, hext, ?_⟩
 refine hT.step (N := fun m => if m = lab then some (.rowp xs el) else if m = l then some (.own (cs.set i (.buf lab)) ty) else if m = l2 then some .gone else none) hext.1 (fun m C hm => ?_) (fun m C hm => ?_) (fun m C q hm hq => ?_) (fun m C m' C' q hne' hm hm' ho2 hq => ?_) (Nat.le_refl _) (fun _ _ _ => rfl) rfl rfl rfl (fun m C hm => ?_)
 ·unfold upd Eff.tab at hm
  simp only [newL, List.cons_append, List.nil_append] at hm
  by_cases k1 : m = l
  ·subst k1
   left
   rw [look_cons_eq] at hm
   rw [if_neg (by omega), if_pos rfl]; exact hm
  ·rw [look_cons_ne (fun q => k1 q.symm)] at hm
   by_cases k2 : m = l2
   ·subst k2
    left
    rw [look_cons_eq] at hm
    rw [if_neg (by omega), if_neg k1, if_pos rfl]; exact hm
   ·rw [look_cons_ne (fun q => k2 q.symm)] at hm
    by_cases k3 : m = lab
    ·subst k3
     left
     rw [look_cons_eq] at hm
     rw [if_pos rfl]; exact hm
    ·right
     rw [look_cons_ne (fun q => k3 q.symm)] at hm
     exact ⟨by rw [if_neg k3, if_neg k1, if_neg k2], hm⟩
 ·split at hm
  ·rename_i e
   subst e
   cases hm
   exact ⟨_, rfl, u, e1, hrow⟩
  ·split at hm
   ·rename_i e
    subst e
    cases hm
    exact ⟨us, hset, b, hext.1.1 _ _ hβ, hh⟩
   ·split at hm
    ·cases hm; exact ⟨[], rfl, trivial⟩
    ·cases hm
 ·right; left
  split at hm
  ·rename_i e
   subst e
   cases hm
   simp only [SB.blk, e1, Option.bind_some] at hq
   exact ⟨l2, _, hl2, rfl, by simp [SB.blk, hσ, hq], by rw [if_neg (by omega), if_neg (fun q => hne q.symm), if_pos rfl]; simp⟩
  ·split at hm
   ·rename_i e0 e
    subst e
    cases hm
    simp only [SB.blk, hext.1.1 _ _ hβ, Option.map_some, Option.some.injEq] at hq
    exact ⟨m, _, hl, rfl, by simp [SB.blk, hβ, hq], by rw [if_neg e0, if_pos rfl]; simp⟩
   ·split at hm
    ·cases hm; cases hq
    ·cases hm
 ·intro hq'
  have k1 : ∀ q, (SB.rowp xs el).blk (V.putσ lab u) lab = some q → (SB.rowp xs el).blk V l2 = some q := fun q h => by
   simp only [SB.blk, e1, Option.bind_some] at h; simp [SB.blk, hσ, h]
  have k2 : ∀ q, (SB.own (cs.set i (.buf lab)) ty).blk (V.putσ lab u) l = some q → (SB.own cs ty).blk V l = some q := fun q h => by
   simp only [SB.blk, hext.1.1 _ _ hβ, Option.map_some, Option.some.injEq] at h; simp [SB.blk, hβ, h]
  split at hm
  ·rename_i e
   subst e
   cases hm
   split at hm'
   ·rename_i e'; exact hne' e'.symm
   ·split at hm'
    ·rename_i e'; subst e'; cases hm'
     exact hT.dist l2 _ m' _ q (fun e => hne e.symm) hl2 hl rfl (k1 q hq) (k2 q hq')
    ·split at hm'
     ·cases hm'; cases hq'
     ·cases hm'
  ·split at hm
   ·rename_i e0 e
    subst e
    cases hm
    split at hm'
    ·rename_i e'; subst e'; cases hm'
     exact hT.dist m _ l2 _ q hne hl hl2 rfl (k2 q hq) (k1 q hq')
    ·split at hm'
     ·rename_i e'; exact hne' e'.symm
     ·split at hm'
      ·cases hm'; cases hq'
      ·cases hm'
   ·split at hm
    ·cases hm; cases ho2
    ·cases hm
 ·split at hm
  ·cases hm; trivial
  ·split at hm
   ·cases hm; trivial
   ·split at hm
    ·cases hm; trivial
    ·cases hm
theorem TabOK.nillT (hT : TabOK w0 M V T w) (hf : V.fresh lab) {el : TypeId} {x : Value} (hx : den V (.raw (.slice none 0 0)) = some x) :
  ∃ V', V.ext lab V' ∧ den V' (.rsl lab 0) = some x ∧ TabOK w0 M V' (upd T lab { val := .rsl lab 0, new := [.rowl [] el] }) w := by
 simp only [den, Option.some.injEq] at hx
 subst hx
 have hext := Val.putσ_ext hf lab (Nat.le_refl _) (by omega) (.tuple [.slice none 0 0].toArray)
 refine ⟨V.putσ lab (.tuple [.slice none 0 0].toArray), hext, by simp [den, Val.putσ, rslV, rosV], ?_⟩
 refine hT.step (N := fun m => if m = lab then some (.rowl [] el) else none) hext.1 (fun m C hm => ?_) (fun m C hm => ?_) (fun m C q hm hq => ?_) (fun m C m' C' q hne hm hm' ho2 _ => ?_) (Nat.le_refl _) (fun _ _ _ => rfl) rfl rfl rfl (fun m C hm => ?_)
 ·unfold upd Eff.tab at hm
  simp only [newL, List.nil_append, look] at hm
  by_cases e : m = lab
  ·subst e
   left
   simpa using hm
  ·right
   refine ⟨if_neg e, ?_⟩
   have : Nat.beq lab m = false := by
    cases hb2 : Nat.beq lab m with
    | false => rfl
    | true => exact absurd (Nat.eq_of_beq_eq_true hb2).symm e
   simpa [this] using hm
 ·split at hm
  ·rename_i e
   subst e
   cases hm
   exact ⟨[], rfl, .slice none 0 0, [], by simp [Val.putσ], World.ownsRow_nil w 0 el 1⟩
  ·cases hm
 ·split at hm
  ·rename_i e
   subst e
   cases hm
   simp [SB.blk, Val.putσ, tupBlk, Value.ownBlock] at hq
  ·cases hm
 ·split at hm
  ·rename_i e
   split at hm'
   ·rename_i e'
    exact absurd (e.trans e'.symm) hne
   ·cases hm'
  ·cases hm
 ·split at hm
  ·rename_i e
   subst e
   cases hm
   exact ⟨.slice none 0 0, [], by simp [Val.putσ], rfl, fun i u d hu => by simp at hu⟩
  ·cases hm
end
inductive Cl where
 | cell (t i m : Nat)
 | tmp (t m : Nat)
 | buf (t : Nat) (k : IntKind)
 | nil (t i : Nat) (k : IntKind) (el : TypeId)
 | ali (t : Nat)
 | alf (t : Nat)
 | alo (t : Nat)
 | nill (t : Nat) (el : TypeId)
 | nilx (t i sz : Nat) (el : TypeId)
 | nilt (t sz : Nat) (el : TypeId)
 | nilp (t : Nat) (el : TypeId)
 | mvb (l i : Nat)
 | nilpx (t i : Nat) (el : TypeId)
noncomputable def closeC (F0 N : Nat) (B : Tab) (c : Cl) (s : St) : Option St := match c with
 | .cell t i m => match s.g.get t with
   | some (.ptr lb true 0) => match s.T B lb with
     | some (.own cs ty) => match cs[i]? with
       | some (.slc l true 0 n cap) => match s.T B l with
         | some (.own cells el) => match Nat.beq cells.length cap && (Nat.ble m cap && (!Nat.beq l lb && Nat.ble cap 1000000)) with
           | true => s.step F0 N none { val := .raw undef, new := [.row 1 (cells.take m) el], wr := [(l, .gone), (lb, .own (cs.set i (.slcR s.nx 0 n 0)) ty)] } s.nx (s.nx + 8)
           | false => none
         | _ => none
       | some (.raw (.slice none 0 0)) => some s
       | _ => none
     | _ => none
   | _ => none
 | .tmp t m => match s.g.get t with
   | some (.slc l true 0 n cap) => match s.T B l with
     | some (.own cells el) => match Nat.beq cells.length cap && (Nat.ble m cap && Nat.ble cap 1000000) with
       | true => s.step F0 N (some t) { val := .slcR s.nx 0 n 0, new := [.row 1 (cells.take m) el], wr := [(l, .gone)] } s.nx (s.nx + 8)
       | false => none
     | _ => none
   | _ => none
 | .buf t k => match s.g.get t with
   | some (.slc l true 0 n cap) => match s.T B l with
     | some (.own cells el) => match Nat.beq cells.length cap && (Nat.ble n cap && Nat.ble cap 1000000), intsK k (cells.take n) with
       | true, some ns => s.step F0 N (some t) { val := .buf s.nx, new := [.rowi k ns el], wr := [(l, .gone)] } s.nx (s.nx + 8)
       | _, _ => none
     | _ => none
   | _ => none
 | .nil t i k el => match s.g.get t with
   | some (.ptr lb true 0) => match s.T B lb with
     | some (.own cs ty) => match cs[i]? with
       | some (.raw (.slice none 0 0)) => s.step F0 N none { val := .raw undef, new := [.rowi k [] el], wr := [(lb, .own (cs.set i (.buf s.nx)) ty)] } s.nx (s.nx + 8)
       | some (.buf _) => some s
       | _ => none
     | _ => none
   | _ => none
 | .ali t => match s.g.get t with
   | some (.ros l n) => match s.T B l with
     | some (.rov k xs) => s.step F0 N (some t) { val := .ros s.nx n, new := [.rov k xs] } s.nx (s.nx + 8)
     | _ => none
   | _ => none
 | .alf t => match s.g.get t with
   | some (.rse l i n) => match s.T B l with
     | some b => match listB b with
       | some ds => s.step F0 N (some t) { val := .ros s.nx n, new := [.rov .u8 (ds.getD i [])] } s.nx (s.nx + 8)
       | none => none
     | none => none
   | some (.ros l n) => match s.T B l with
     | some (.rof d) => s.step F0 N (some t) { val := .ros s.nx n, new := [.rov .u8 d] } s.nx (s.nx + 8)
     | _ => none
   | _ => none
 | .alo t => match s.g.get t with
   | some (.ros l n) => match s.T B l with
     | some (.rof d) => s.step F0 N (some t) { val := .ros s.nx n, new := [.rof d] } s.nx (s.nx + 8)
     | _ => none
   | _ => none
 | .nill t el => match s.g.get t with
   | some (.raw (.slice none 0 0)) => s.step F0 N (some t) { val := .rsl s.nx 0, new := [.rowl [] el] } s.nx (s.nx + 8)
   | some (.rsl _ _) => some s
   | _ => none
 | .nilx t i sz el => match s.g.get t with
   | some (.ptr lb true 0) => match s.T B lb with
     | some (.own cs ty) => match cs[i]? with
       | some (.raw (.slice none 0 0)) => s.step F0 N none { val := .raw undef, new := [.rowx sz 0 el], wr := [(lb, .own (cs.set i (.buf s.nx)) ty)] } s.nx (s.nx + 8)
       | some (.buf _) => some s
       | _ => none
     | _ => none
   | _ => none
 | .nilt t sz el => match s.g.get t with
   | some (.raw (.slice none 0 0)) => s.step F0 N (some t) { val := .buf s.nx, new := [.rowx sz 0 el] } s.nx (s.nx + 8)
   | some (.buf _) => some s
   | _ => none
 | .nilp t el => match s.g.get t with
   | some (.raw (.slice none 0 0)) => s.step F0 N (some t) { val := .buf s.nx, new := [.rowp [] el] } s.nx (s.nx + 8)
   | some (.buf _) => some s
   | _ => none
 | .mvb l i => match s.T B l with
   | some (.own cs ty) => match cs[i]? with
     | some (.buf l2) => match s.T B l2, Nat.blt l s.nx && Nat.blt l2 s.nx with
       | some (.rowp xs el), true => s.step F0 N none { val := .raw undef, new := [.rowp xs el], wr := [(l, .own (cs.set i (.buf s.nx)) ty), (l2, .gone)] } s.nx (s.nx + 8)
       | _, _ => none
     | _ => none
   | _ => none
 | .nilpx t i el => match s.g.get t with
   | some (.ptr lb true 0) => match s.T B lb with
     | some (.own cs ty) => match cs[i]? with
       | some (.raw (.slice none 0 0)) => s.step F0 N none { val := .raw undef, new := [.rowp [] el], wr := [(lb, .own (cs.set i (.buf s.nx)) ty)] } s.nx (s.nx + 8)
       | some (.buf _) => some s
       | _ => none
     | _ => none
   | _ => none
noncomputable def closeS (F0 N : Nat) (B : Tab) : List Cl → St → Option St
 | [], s => some s
 | c :: r, s => match closeC F0 N B c s with
   | some s => closeS F0 N B r s
   | none => none
section
variable {P : Program} {Γ : Env} {w0 : World} {M : Nat → Prop} {B : Tab} {N F0 : Nat} {V0 : Val}
theorem Inv.closeC {c : Cl} {s s' : St} (h : closeC F0 N B c s = some s') {V : Val} {a : Act} {w : World} (hi : Inv P Γ w0 M B N F0 V0 s V a w) : (∃ V', Inv P Γ w0 M B N F0 V0 s' V' a w) ∧ s'.ob = s.ob := by
 cases c with
 | cell t i m =>
   simp only [Sx.closeC] at h
   split at h
   case h_2 => cases h
   rename_i lb _
   split at h
   case h_2 => cases h
   rename_i cs ty hb
   split at h
   case h_3 => cases h
   ·rename_i l n cap hc
    split at h
    case h_2 => cases h
    rename_i cells el hl
    split at h
    case h_2 => cases h
    rename_i hck
    simp only [Bool.and_eq_true, Bool.not_eq_true'] at hck
    obtain ⟨k1, k2, k3, k4⟩ := hck
    obtain ⟨V', hV, hT⟩ := TabOK.close hi.tab hi.top.fresh hi.hi hl (Nat.eq_of_beq_eq_true k1) (Nat.le_of_ble_eq_true k2) (Nat.le_of_ble_eq_true k4) hb hc (fun e => by subst e; rw [Nat.beq_refl] at k3; cases k3) (.raw undef)
    refine ⟨⟨V', ?_⟩, (St.step_T B h).2.2.1⟩
    exact hi.step (x := undef) h (Nat.le_refl _) (Nat.le_refl _) hV (fun h => by cases h) hT
   ·cases h; exact ⟨⟨V, hi⟩, rfl⟩
 | tmp t m =>
   simp only [Sx.closeC] at h
   split at h
   case h_2 => cases h
   rename_i l n cap ht
   split at h
   case h_2 => cases h
   rename_i cells el hl
   split at h
   case h_2 => cases h
   rename_i hck
   simp only [Bool.and_eq_true] at hck
   obtain ⟨k1, k2, k4⟩ := hck
   obtain ⟨V', hV, hx, hT⟩ := TabOK.closeT hi.tab hi.top.fresh hi.hi hl (Nat.eq_of_beq_eq_true k1) (Nat.le_of_ble_eq_true k2) (Nat.le_of_ble_eq_true k4) (hi.tmp t _ ht)
   have := hi.step (x := a.eval (.tmp t)) h (Nat.le_refl _) (Nat.le_refl _) hV (fun _ => hx) hT
   rw [Act.put_same] at this
   exact ⟨⟨V', this⟩, (St.step_T B h).2.2.1⟩
 | buf t k =>
   simp only [Sx.closeC] at h
   split at h
   case h_2 => cases h
   rename_i l n cap ht
   split at h
   case h_2 => cases h
   rename_i cells el hl
   split at h
   case h_2 => cases h
   rename_i ns hck hk
   simp only [Bool.and_eq_true] at hck
   obtain ⟨k1, k2, k4⟩ := hck
   obtain ⟨V', hV, hx, hT⟩ := TabOK.closeB hi.tab hi.top.fresh hi.hi hl (Nat.eq_of_beq_eq_true k1) (Nat.le_of_ble_eq_true k2) (Nat.le_of_ble_eq_true k4) hk (hi.tmp t _ ht)
   have := hi.step (x := a.eval (.tmp t)) h (Nat.le_refl _) (Nat.le_refl _) hV (fun _ => hx) hT
   rw [Act.put_same] at this
   exact ⟨⟨V', this⟩, (St.step_T B h).2.2.1⟩
 | nil t i k el =>
   simp only [Sx.closeC] at h
   split at h
   case h_2 => cases h
   rename_i lb _
   split at h
   case h_2 => cases h
   rename_i cs ty hb
   split at h
   case h_3 => cases h
   ·rename_i hc
    obtain ⟨V', hV, hT⟩ := TabOK.nilC (k0 := k) (el := el) hi.tab hi.top.fresh hi.hi hb hc (.raw undef)
    exact ⟨⟨V', hi.step (x := undef) h (Nat.le_refl _) (Nat.le_refl _) hV (fun h => by cases h) hT⟩, (St.step_T B h).2.2.1⟩
   ·cases h; exact ⟨⟨V, hi⟩, rfl⟩
 | ali t =>
   simp only [Sx.closeC] at h
   split at h
   case h_2 => cases h
   rename_i l n ht
   split at h
   case h_2 => cases h
   rename_i k xs hl
   obtain ⟨V', hV, hx, hT⟩ := TabOK.aliasT hi.tab hi.top.fresh hl (hi.tmp t _ ht)
   have := hi.step (x := a.eval (.tmp t)) h (Nat.le_refl _) (Nat.le_refl _) hV (fun _ => hx) hT
   rw [Act.put_same] at this
   exact ⟨⟨V', this⟩, (St.step_T B h).2.2.1⟩
 | alf t =>
   simp only [Sx.closeC] at h
   split at h
   case h_3 => cases h
   ·rename_i l i n ht
    split at h
    case h_2 => cases h
    rename_i b hb
    split at h
    case h_2 => cases h
    rename_i ds hd
    obtain ⟨_, _, _, _, hF, hr⟩ := rse_ok hi.tab (hi.tmp t _ ht) hb hd
    obtain ⟨V', hV, hx, hT⟩ := TabOK.aliasF hi.tab hi.top.fresh hr hF
    have := hi.step (x := a.eval (.tmp t)) h (Nat.le_refl _) (Nat.le_refl _) hV (fun _ => hx) hT
    rw [Act.put_same] at this
    exact ⟨⟨V', this⟩, (St.step_T B h).2.2.1⟩
   ·rename_i l n ht
    split at h
    case h_2 => cases h
    rename_i d hl
    obtain ⟨u, hσ, hF⟩ := hi.tab.fro l _ hl
    have hd := hi.tmp t _ ht
    simp only [den, hσ, Option.bind_some] at hd
    have e := (rosV_ok hd).1
    rw [e] at hd
    obtain ⟨V', hV, hx, hT⟩ := TabOK.aliasF hi.tab hi.top.fresh hd hF
    rw [← e] at hx
    have := hi.step (x := a.eval (.tmp t)) h (Nat.le_refl _) (Nat.le_refl _) hV (fun _ => hx) hT
    rw [Act.put_same] at this
    exact ⟨⟨V', this⟩, (St.step_T B h).2.2.1⟩
 | alo t =>
   simp only [Sx.closeC] at h
   split at h
   case h_2 => cases h
   rename_i l n ht
   split at h
   case h_2 => cases h
   rename_i d hl
   obtain ⟨u, hσ, hF⟩ := hi.tab.fro l _ hl
   have hd := hi.tmp t _ ht
   simp only [den, hσ, Option.bind_some] at hd
   have e := (rosV_ok hd).1
   rw [e] at hd
   obtain ⟨V', hV, hx, hT⟩ := TabOK.aliasO hi.tab hi.top.fresh hd hF
   rw [← e] at hx
   have := hi.step (x := a.eval (.tmp t)) h (Nat.le_refl _) (Nat.le_refl _) hV (fun _ => hx) hT
   rw [Act.put_same] at this
   exact ⟨⟨V', this⟩, (St.step_T B h).2.2.1⟩
 | nill t el =>
   simp only [Sx.closeC] at h
   split at h
   case h_3 => cases h
   ·rename_i ht
    obtain ⟨V', hV, hx, hT⟩ := TabOK.nillT (el := el) hi.tab hi.top.fresh (hi.tmp t _ ht)
    have := hi.step (x := a.eval (.tmp t)) h (Nat.le_refl _) (Nat.le_refl _) hV (fun _ => hx) hT
    rw [Act.put_same] at this
    exact ⟨⟨V', this⟩, (St.step_T B h).2.2.1⟩
   ·cases h; exact ⟨⟨V, hi⟩, rfl⟩
 | nilx t i sz el =>
   simp only [Sx.closeC] at h
   split at h
   case h_2 => cases h
   rename_i lb _
   split at h
   case h_2 => cases h
   rename_i cs ty hb
   split at h
   case h_3 => cases h
   ·rename_i hc
    obtain ⟨V', hV, hT⟩ := TabOK.nilX (sz := sz) (el := el) hi.tab hi.top.fresh hi.hi hb hc (.raw undef)
    exact ⟨⟨V', hi.step (x := undef) h (Nat.le_refl _) (Nat.le_refl _) hV (fun h => by cases h) hT⟩, (St.step_T B h).2.2.1⟩
   ·cases h; exact ⟨⟨V, hi⟩, rfl⟩
 | nilt t sz el =>
   simp only [Sx.closeC] at h
   split at h
   case h_3 => cases h
   ·rename_i ht
    obtain ⟨V', hV, hx, hT⟩ := TabOK.nilT (sz := sz) (el := el) hi.tab hi.top.fresh (hi.tmp t _ ht)
    have := hi.step (x := a.eval (.tmp t)) h (Nat.le_refl _) (Nat.le_refl _) hV (fun _ => hx) hT
    rw [Act.put_same] at this
    exact ⟨⟨V', this⟩, (St.step_T B h).2.2.1⟩
   ·cases h; exact ⟨⟨V, hi⟩, rfl⟩
 | nilp t el =>
   simp only [Sx.closeC] at h
   split at h
   case h_3 => cases h
   ·rename_i ht
    obtain ⟨V', hV, hx, hT⟩ := TabOK.nilpT (el := el) hi.tab hi.top.fresh (hi.tmp t _ ht)
    have := hi.step (x := a.eval (.tmp t)) h (Nat.le_refl _) (Nat.le_refl _) hV (fun _ => hx) hT
    rw [Act.put_same] at this
    exact ⟨⟨V', this⟩, (St.step_T B h).2.2.1⟩
   ·cases h; exact ⟨⟨V, hi⟩, rfl⟩
 | mvb l i =>
   simp only [Sx.closeC] at h
   split at h
   case h_2 => cases h
   rename_i cs ty hl
   split at h
   case h_2 => cases h
   rename_i l2 hc
   split at h
   case h_2 => cases h
   rename_i xs el hl2 hlt
   simp only [Bool.and_eq_true, Nat.blt_eq] at hlt
   obtain ⟨V', hV, hT⟩ := TabOK.moveP hi.tab hi.top.fresh hl hc hl2 hlt.1 hlt.2 (.raw undef)
   exact ⟨⟨V', hi.step (x := undef) h (Nat.le_refl _) (Nat.le_refl _) hV (fun h => by cases h) hT⟩, (St.step_T B h).2.2.1⟩
 | nilpx t i el =>
   simp only [Sx.closeC] at h
   split at h
   case h_2 => cases h
   rename_i lb _
   split at h
   case h_2 => cases h
   rename_i cs ty hb
   split at h
   case h_3 => cases h
   ·rename_i hc
    obtain ⟨V', hV, hT⟩ := TabOK.nilPX (el := el) hi.tab hi.top.fresh hi.hi hb hc (.raw undef)
    exact ⟨⟨V', hi.step (x := undef) h (Nat.le_refl _) (Nat.le_refl _) hV (fun h => by cases h) hT⟩, (St.step_T B h).2.2.1⟩
   ·cases h; exact ⟨⟨V, hi⟩, rfl⟩
theorem Inv.closeS : ∀ {cl : List Cl} {s s' : St}, closeS F0 N B cl s = some s' → ∀ {V : Val} {a : Act} {w : World}, Inv P Γ w0 M B N F0 V0 s V a w → (∃ V', Inv P Γ w0 M B N F0 V0 s' V' a w)
 | [], s, s', h, V, a, w, hi => by simp only [Sx.closeS, Option.some.injEq] at h; subst h; exact ⟨V, hi⟩
 | c :: r, s, s', h, V, a, w, hi => by
   simp only [Sx.closeS] at h
   split at h
   ·rename_i s1 h1
    obtain ⟨⟨V1, hi1⟩, e⟩ := hi.closeC h1
    exact Inv.closeS h hi1
   ·cases h
theorem closeC_ob {c : Cl} {s s' : St} (h : closeC F0 N B c s = some s') : s'.ob = s.ob := by
 cases c with
 | cell t i m =>
   simp only [Sx.closeC] at h
   split at h
   case h_2 => cases h
   split at h
   case h_2 => cases h
   split at h
   case h_3 => cases h
   ·split at h
    case h_2 => cases h
    split at h
    case h_2 => cases h
    exact (St.step_T B h).2.2.1
   ·cases h; rfl
 | tmp t m =>
   simp only [Sx.closeC] at h
   split at h
   case h_2 => cases h
   split at h
   case h_2 => cases h
   split at h
   case h_2 => cases h
   exact (St.step_T B h).2.2.1
 | buf t k =>
   simp only [Sx.closeC] at h
   split at h
   case h_2 => cases h
   split at h
   case h_2 => cases h
   split at h
   case h_2 => cases h
   exact (St.step_T B h).2.2.1
 | nil t i k el =>
   simp only [Sx.closeC] at h
   split at h
   case h_2 => cases h
   split at h
   case h_2 => cases h
   split at h
   case h_3 => cases h
   ·exact (St.step_T B h).2.2.1
   ·cases h; rfl
 | ali t =>
   simp only [Sx.closeC] at h
   split at h
   case h_2 => cases h
   split at h
   case h_2 => cases h
   exact (St.step_T B h).2.2.1
 | alf t =>
   simp only [Sx.closeC] at h
   split at h
   case h_3 => cases h
   ·split at h
    case h_2 => cases h
    split at h
    case h_2 => cases h
    exact (St.step_T B h).2.2.1
   ·split at h
    case h_2 => cases h
    exact (St.step_T B h).2.2.1
 | alo t =>
   simp only [Sx.closeC] at h
   split at h
   case h_2 => cases h
   split at h
   case h_2 => cases h
   exact (St.step_T B h).2.2.1
 | nill t el =>
   simp only [Sx.closeC] at h
   split at h
   case h_3 => cases h
   ·exact (St.step_T B h).2.2.1
   ·cases h; rfl
 | nilx t i sz el =>
   simp only [Sx.closeC] at h
   split at h
   case h_2 => cases h
   split at h
   case h_2 => cases h
   split at h
   case h_3 => cases h
   ·exact (St.step_T B h).2.2.1
   ·cases h; rfl
 | nilt t sz el =>
   simp only [Sx.closeC] at h
   split at h
   case h_3 => cases h
   ·exact (St.step_T B h).2.2.1
   ·cases h; rfl
 | nilp t el =>
   simp only [Sx.closeC] at h
   split at h
   case h_3 => cases h
   ·exact (St.step_T B h).2.2.1
   ·cases h; rfl
 | mvb l i =>
   simp only [Sx.closeC] at h
   split at h
   case h_2 => cases h
   split at h
   case h_2 => cases h
   split at h
   case h_2 => cases h
   exact (St.step_T B h).2.2.1
 | nilpx t i el =>
   simp only [Sx.closeC] at h
   split at h
   case h_2 => cases h
   split at h
   case h_2 => cases h
   split at h
   case h_3 => cases h
   ·exact (St.step_T B h).2.2.1
   ·cases h; rfl
theorem closeS_ob : ∀ {cl : List Cl} {s s' : St}, closeS F0 N B cl s = some s' → s'.ob = s.ob
 | [], s, s', h => by simp only [Sx.closeS, Option.some.injEq] at h; subst h; rfl
 | c :: r, s, s', h => by
   simp only [Sx.closeS] at h
   split at h
   ·rename_i s1 h1
    rw [closeS_ob h, closeC_ob h1]
   ·cases h
noncomputable def endC (Γ : Env) (T : Tab) (lab F : Nat) (fn : Func) (cl : List Cl) (r : Option Cfg) : Option Eff := match r with
 | some r => match r.cf, r.fr with
   | .at x, [] => match closeS F fn.ntmps (cutT F T) cl r.st with
     | some s => endS Γ T lab F fn x s
     | none => none
   | _, _ => none
 | none => none
theorem G.finC (hty : TyOK P Γ) (hsum : SumsOK P Γ) (hmix : P.follows .mixedOrders = true) {T : Tab} {lab : Nat} {fn : Func} {e e' : Eff} {cl : List Cl} {stops : List Nat} {lf n : Nat} {cf : Cf} {K : List Fr} {s : St} (hs : List Bool) {Q : Exit → Act → World → Prop}
  (H : ∀ x s e', endS Γ T lab F0 fn x s = some e' → (∀ q ∈ e'.obl, q) → e'.val = e.val → e'.new = e.new → e'.wr = e.wr → G P Γ w0 M (cutT F0 T) fn.ntmps F0 V0 (.at x) [] s Q)
  (h : endC Γ T lab F0 fn cl (mrun Γ (cutT F0 T) F0 fn.ntmps stops lf n cf K (s.hint hs)) = some e') (hp : ∀ q ∈ e'.obl, q) (h1 : e'.val = e.val) (h2 : e'.new = e.new) (h3 : e'.wr = e.wr) :
  G P Γ w0 M (cutT F0 T) fn.ntmps F0 V0 cf K s Q := by
 unfold endC at h
 split at h
 case h_2 => cases h
 rename_i r hr
 split at h
 case h_2 => cases h
 rename_i x hx hf
 split at h
 case h_2 => cases h
 rename_i s1 h1'
 have hrun : G P Γ w0 M (cutT F0 T) fn.ntmps F0 V0 cf K (s.hint hs) Q := by
  refine G.run hty hsum hmix hr (fun q hq => hp q (endS_ob h q (by rw [closeS_ob h1']; exact hq))) ?_
  rw [hx, hf]
  intro V a w hi
  obtain ⟨V', hi'⟩ := hi.closeS h1'
  exact H x s1 e' h hp h1 h2 h3 V' a w hi'
 intro V a w hi
 exact hrun V a w (hi.hints s.ob hs)
noncomputable def toC (F0 N : Nat) (B : Tab) (cl : List Cl) (gs : List (Nat × SV)) (tb : List (Nat × SB)) (nx : Nat) (ws : List Nat) (df : List SV) (r : Option Cfg) : Option (Cf × List Fr × List Prop) := match r with
 | some r => match closeS F0 N B cl r.st with
   | some s => toA F0 B [] gs tb nx ws df (some ⟨r.cf, r.fr, s⟩)
   | none => none
 | none => none
theorem G.toC (hty : TyOK P Γ) (hsum : SumsOK P Γ) (hmix : P.follows .mixedOrders = true) (hb : Base Γ B F0 V0) {stops : List Nat} {lf n : Nat} {cf cf' : Cf} {K K' : List Fr} {s : St} (hs : List Bool) {cl : List Cl} {gs : List (Nat × SV)} {tb : List (Nat × SB)} {nx : Nat} {ws : List Nat} {df : List SV} {ps : List Prop} {Q : Exit → Act → World → Prop}
  (h : toC F0 N B cl gs tb nx ws df (mrun Γ B F0 N stops lf n cf K (s.hint hs)) = some (cf', K', ps)) (hp : ∀ q ∈ ps, q) (hG : G P Γ w0 M B N F0 V0 cf' K' (stOf gs tb nx ws df) Q) : G P Γ w0 M B N F0 V0 cf K s Q := by
 unfold Sx.toC at h
 split at h
 case h_2 => cases h
 rename_i r hr
 split at h
 case h_2 => cases h
 rename_i s1 h1
 have ob := closeS_ob h1
 have h0 : Sx.toA F0 B [] gs tb nx ws df (mrun Γ B F0 N stops lf 0 r.cf r.fr (s1.hint s1.hs)) = some (cf', K', ps) := h
 have hrun : G P Γ w0 M B N F0 V0 cf K (s.hint hs) Q := by
  refine G.run hty hsum hmix hr (fun q hq => ?_) ?_
  ·refine hp q ?_
   have hq : q ∈ s1.ob := by rw [ob]; exact hq
   unfold Sx.toA at h
   simp only at h
   unfold Sx.toN at h
   simp only [nilBs] at h
   unfold toS at h
   simp only at h
   split at h
   case h_2 => cases h
   split at h
   case h_2 => cases h
   cases h
   exact List.mem_append_left _ hq
  ·intro V a w hi
   obtain ⟨V', hi'⟩ := hi.closeS h1
   exact G.toA hty hsum hmix hb s1.hs h0 hp hG V' a w hi'
 intro V a w hi
 exact hrun V a w (hi.hints s.ob hs)
theorem G.roundC (hty : TyOK P Γ) (hsum : SumsOK P Γ) (hmix : P.follows .mixedOrders = true) (hb : Base Γ B F0 V0) {stops : List Nat} {lf n : Nat} {cf : Cf} {K1 K : List Fr} {s : St} (hs : List Bool) {cl : List Cl} {gs : List (Nat × SV)} {tb : List (Nat × SB)} {nx : Nat} {ws : List Nat} {df : List SV} {ps : List Prop} {Q : Exit → Act → World → Prop} {S : Nat → St → Prop} {r : Nat}
  (h : Sx.toC F0 N B cl gs tb nx ws df (mrun Γ B F0 N stops lf n cf K1 (s.hint hs)) = some (.at .normal, [], ps)) (hp : ∀ q ∈ ps, q) (r' : Nat) (hlt : r' < r) (hS : S r' (stOf gs tb nx ws df)) :
  G P Γ w0 M B N F0 V0 cf K1 s (Exit.then (fun a w => ∃ r', r' < r ∧ ∃ s', S r' s' ∧ ∃ V, Inv P Γ w0 M B N F0 V0 s' V a w) (KQ P K Q)) :=
 G.toC hty hsum hmix hb hs h hp (G.again fun V _ _ hi => ⟨r', hlt, _, hS, V, hi⟩)
end
theorem CallOK.wrSame {P : Program} {Γ : Env} {f : FuncId} {vs : List SV} {T : Tab} {lab F : Nat} {e : Eff} (h : CallOK P Γ f vs T lab F e) (l : Nat) (B : SB) (hT : T l = some B) (hl : l < lab) :
  CallOK P Γ f vs T lab F { e with wr := e.wr ++ [(l, B)] } := by
 intro w0 M V T2 w xs hsub hTab hg hf hF hx o a K Q hK
 refine h w0 M V T2 w xs hsub hTab hg hf hF hx o a K Q fun V' x w' h1 h2 h3 => hK V' x w' h1 h2 ?_
 have : upd T2 lab { e with wr := e.wr ++ [(l, B)] } = upd T2 lab e := by
  funext k
  simp only [upd, Eff.tab, look_append, List.append_assoc]
  cases hk : look k e.wr with
  | some b => rfl
  | none =>
    simp only
    by_cases e1 : l = k
    ·subst e1
     rw [look_cons_eq]
     simp only
     rw [look_newL, if_neg (by omega)]
     exact (hsub l B hT).symm
    ·rw [look_cons_ne e1]
     simp only [look]
 rw [this]
 exact h3
end Go.Proofs.YtjomfjihopegmaaGreatDoor.Sx
end
section
open Go
namespace Go.Proofs.YtjomfjihopegmaaGreatDoor.Sx
section
variable {w0 w : World} {M : Nat → Prop} {V : Val} {T : Tab} {lab : Nat}
theorem denL_ints (V : Val) (k : IntKind) : ∀ xs : List Int, denL V (xs.map (SV.int false k)) = some (xs.map (Value.int k))
 | [] => rfl
 | x :: xs => by simp [denL, den, denL_ints V k xs]
theorem TabOK.opened (h : TabOK w0 M V T w) (hf : V.fresh lab) (hlab : ∀ k, lab ≤ k → T k = none) {l : Nat} {k : IntKind} {xs : List Int} {el : TypeId} (hl : T l = some (.rowi k xs el)) (hpos : 0 < xs.length) {lb : Nat} {cs : List SV} {ty : TypeId} {i : Nat}
  (hb : T lb = some (.own cs ty)) (hi : cs[i]? = some (.buf l)) (hne : l ≠ lb) (v : SV) :
  ∃ V', V.ext lab V' ∧ TabOK w0 M V' (upd T lab { val := v, new := [.row 1 (xs.map (SV.int false k)) el], wr := [(l, .gone), (lb, .own (cs.set i (.slcR lab 0 xs.length 0)) ty)] }) w := by
 obtain ⟨us, hus, u, hσ, hrow⟩ := h.ok l _ hl
 obtain ⟨ys, hys, b2, hβ2, hh2⟩ := h.ok lb _ hb
 cases hus
 rcases hrow.2 with ⟨_, h0⟩ | ⟨b, cap, cur, rfl, _, hh, hle, hcap, hcs, htake⟩
 ·omega
 have hlt : l < lab := Nat.lt_of_not_le fun q => by rw [hlab l q] at hl; cases hl
 have hltb : lb < lab := Nat.lt_of_not_le fun q => by rw [hlab lb q] at hb; cases hb
 have hext : V.ext lab ((V.put lab (b, 0)).putσ lab (.int .i64 (cap : Nat))) := by
  have h1 := Val.put_ext hf lab (Nat.le_refl _) (by omega) (b, 0)
  refine ⟨⟨fun k p hp => h1.1.1 k p hp, fun k p hp => ?_⟩, fun k hk => ⟨(h1.2 k hk).1, ?_⟩⟩
  ·simp only [Val.putσ]
   by_cases e : k = lab
   ·subst e; rw [(hf k (Nat.le_refl _) (by omega)).2] at hp; cases hp
   ·rw [if_neg e]; exact hp
  ·simp only [Val.putσ]
   rw [if_neg (by omega)]
   rfl
 refine ⟨_, hext, ?_⟩
 obtain ⟨V', hV'⟩ : ∃ V', V' = (V.put lab (b, 0)).putσ lab (.int .i64 (cap : Nat)) := ⟨_, rfl⟩
 rw [← hV'] at hext ⊢
 have e1 : V'.β lab = some (b, 0) := by rw [hV']; simp [Val.put, Val.putσ]
 have e2 : V'.σ lab = some (.int .i64 (cap : Nat)) := by rw [hV']; simp [Val.putσ]
 have hbl : SB.blk V l (.rowi k xs el) = some b := by simp [SB.blk, hσ, Value.ownBlock]
 have hbb : b ≠ b2 := by
  intro e
  exact h.dist l _ lb _ b hne hl hb rfl hbl (by simp [SB.blk, hβ2, e])
 have hset : denL V' (cs.set i (.slcR lab 0 xs.length 0)) = some ys := by
  have hx1 : denL V' cs = some ys := denL_mono hext.1 hys
  obtain ⟨x, hx2, hx3⟩ := denL_get hx1 i _ hi
  simp only [den, hext.1.2 _ _ hσ, Option.some.injEq] at hx3
  refine denL_set ?_ cs ys i hx1 hx2
  rw [← hx3]
  simp [den, e1, e2, capOf]
 refine h.step (N := fun q => if q = lab then some (.row 1 (xs.map (SV.int false k)) el) else if q = l then some .gone else if q = lb then some (.own (cs.set i (.slcR lab 0 xs.length 0)) ty) else none) hext.1 (fun q C hk => ?_) (fun q C hk => ?_) (fun q C p hk hp => ?_) (fun q C q' C' p hne' hk hk' ho hp => ?_) (Nat.le_refl _) (fun _ _ _ => rfl) rfl rfl rfl
 ·simp only [upd, Eff.tab, newL, List.cons_append, List.nil_append] at hk
  by_cases k1 : l = q
  ·subst k1
   rw [look_cons_eq] at hk
   left
   simp only [if_neg (show ¬ l = lab by omega), if_true]
   simpa using hk
  ·rw [look_cons_ne k1] at hk
   by_cases k2 : lb = q
   ·subst k2
    rw [look_cons_eq] at hk
    left
    simp only [if_neg (show ¬ lb = lab by omega), if_neg (fun q => hne (Eq.symm q)), if_true]
    simpa using hk
   ·rw [look_cons_ne k2] at hk
    by_cases k3 : lab = q
    ·subst k3; rw [look_cons_eq] at hk; left; simpa using hk
    ·rw [look_cons_ne k3] at hk
     right
     simp only [look] at hk
     exact ⟨by rw [if_neg (fun q => k3 q.symm), if_neg (fun q => k1 q.symm), if_neg (fun q => k2 q.symm)], hk⟩
 ·by_cases k1 : q = lab
  ·rw [if_pos k1] at hk
   cases hk
   subst k1
   refine ⟨xs.map (Value.int k), denL_ints V' k xs, b, cap, cur, e1, e2, hh, hcap, hcs, ⟨xs.length, by simp, hle⟩, ?_⟩
   rw [List.length_map]
   rw [Nat.mul_one] at htake
   exact htake
  ·rw [if_neg k1] at hk
   by_cases k2 : q = l
   ·rw [if_pos k2] at hk; cases hk; exact ⟨[], rfl, trivial⟩
   ·rw [if_neg k2] at hk
    by_cases k3 : q = lb
    ·rw [if_pos k3] at hk
     cases hk
     subst k3
     exact ⟨ys, hset, b2, hext.1.1 _ _ hβ2, hh2⟩
    ·rw [if_neg k3] at hk; cases hk
 ·by_cases k1 : q = lab
  ·rw [if_pos k1] at hk
   cases hk
   subst k1
   simp only [SB.blk, e1, Option.map_some, Option.some.injEq] at hp
   subst hp
   right; left
   exact ⟨l, _, hl, rfl, hbl, by simp [if_neg (show ¬ l = q by omega)]⟩
  ·rw [if_neg k1] at hk
   by_cases k2 : q = l
   ·rw [if_pos k2] at hk; cases hk; cases hp
   ·rw [if_neg k2] at hk
    by_cases k3 : q = lb
    ·rw [if_pos k3] at hk
     cases hk
     subst k3
     simp only [SB.blk, hext.1.1 _ _ hβ2, Option.map_some, Option.some.injEq] at hp
     subst hp
     right; left
     exact ⟨q, _, hb, rfl, by simp [SB.blk, hβ2], by simp [if_neg k1, if_neg k2]⟩
    ·rw [if_neg k3] at hk; cases hk
 ·have blk : ∀ q C p, (if q = lab then some (SB.row 1 (xs.map (SV.int false k)) el) else if q = l then some .gone else if q = lb then some (.own (cs.set i (.slcR lab 0 xs.length 0)) ty) else none) = some C → C.blk V' q = some p → (q = lab ∧ p = b) ∨ (q = lb ∧ p = b2) := by
   intro q C p hk hp
   by_cases k1 : q = lab
   ·rw [if_pos k1] at hk
    cases hk
    subst k1
    simp only [SB.blk, e1, Option.map_some, Option.some.injEq] at hp
    exact .inl ⟨rfl, hp.symm⟩
   ·rw [if_neg k1] at hk
    by_cases k2 : q = l
    ·rw [if_pos k2] at hk; cases hk; cases hp
    ·rw [if_neg k2] at hk
     by_cases k3 : q = lb
     ·rw [if_pos k3] at hk
      cases hk
      subst k3
      simp only [SB.blk, hext.1.1 _ _ hβ2, Option.map_some, Option.some.injEq] at hp
      exact .inr ⟨rfl, hp.symm⟩
     ·rw [if_neg k3] at hk; cases hk
  intro hp'
  rcases blk q C p hk hp with ⟨r1, r2⟩ | ⟨r1, r2⟩ <;> rcases blk q' C' p hk' hp' with ⟨r3, r4⟩ | ⟨r3, r4⟩
  ·omega
  ·exact hbb (r2.symm.trans r4)
  ·exact hbb (r4.symm.trans r2)
  ·omega
end
noncomputable def openC (F0 N : Nat) (B : Tab) (t i : Nat) (s : St) : Option St := match s.g.get t with
 | some (.ptr lb true 0) => match s.T B lb with
   | some (.own cs ty) => match cs[i]? with
     | some (.buf l) => match s.T B l with
       | some (.rowi k xs el) => match Nat.blt 0 xs.length && !Nat.beq l lb with
         | true => s.step F0 N none { val := .raw undef, new := [.row 1 (xs.map (SV.int false k)) el], wr := [(l, .gone), (lb, .own (cs.set i (.slcR s.nx 0 xs.length 0)) ty)] } s.nx (s.nx + 8)
         | false => none
       | _ => none
     | _ => none
   | _ => none
 | _ => none
noncomputable def opS (F0 N : Nat) (B : Tab) (t i : Nat) (s : St) : St := match openC F0 N B t i s with
 | some s' => s'
 | none => s
section
variable {P : Program} {Γ : Env} {w0 : World} {M : Nat → Prop} {B : Tab} {N F0 : Nat} {V0 : Val}
theorem Inv.openC {t i : Nat} {s s' : St} (h : openC F0 N B t i s = some s') {V : Val} {a : Act} {w : World} (hi : Inv P Γ w0 M B N F0 V0 s V a w) : ∃ V', Inv P Γ w0 M B N F0 V0 s' V' a w := by
 unfold Sx.openC at h
 split at h
 case h_2 => cases h
 rename_i lb _
 split at h
 case h_2 => cases h
 rename_i cs ty hb
 split at h
 case h_2 => cases h
 rename_i l hc
 split at h
 case h_2 => cases h
 rename_i k xs el hl
 split at h
 case h_2 => cases h
 rename_i hck
 simp only [Bool.and_eq_true, Bool.not_eq_true'] at hck
 obtain ⟨k1, k2⟩ := hck
 obtain ⟨V', hV, hT⟩ := TabOK.opened hi.tab hi.top.fresh hi.hi hl (by simpa [Nat.blt_eq] using k1) hb hc (fun e => by subst e; rw [Nat.beq_refl] at k2; cases k2) (.raw undef)
 exact ⟨V', hi.step (x := undef) h (Nat.le_refl _) (Nat.le_refl _) hV (fun h => by cases h) hT⟩
theorem G.op (t i : Nat) {cf : Cf} {K : List Fr} {s : St} {Q : Exit → Act → World → Prop} (hG : G P Γ w0 M B N F0 V0 cf K (opS F0 N B t i s) Q) : G P Γ w0 M B N F0 V0 cf K s Q := by
 intro V a w hi
 unfold opS at hG
 split at hG
 ·rename_i s' h
  obtain ⟨V', hi'⟩ := hi.openC h
  exact hG V' a w hi'
 ·exact hG V a w hi
end
end Go.Proofs.YtjomfjihopegmaaGreatDoor.Sx
end
section
open Go
namespace Go.Proofs.YtjomfjihopegmaaGreatDoor.Sx
def SB.whole : SB → Option (Option TypeId)
 | .own _ ty | .ints _ _ ty | .vals _ ty => some (some ty)
 | .roc _ | .roi _ _ => some none
 | _ => none
theorem whole_plain {B : SB} {ty : Option TypeId} (h : B.whole = some ty) : B.plain = true := by cases B <;> first | rfl | cases h
theorem whole_ok {B C : SB} {ty : Option TypeId} (hB : B.whole = some ty) (hC : C.whole = some ty) (h : ∀ V, B.cells V = C.cells V) (V : Val) (w : World) (l : Nat) : (okB V w l B → okB V w l C) ∧ C.blk V l = B.blk V l ∧ C.owned = B.owned := by
 cases B <;> simp only [SB.whole, reduceCtorEq] at hB <;> cases C <;> simp only [SB.whole, reduceCtorEq] at hC <;> cases hB <;> cases hC <;>
  exact ⟨fun ⟨cs, h1, h2⟩ => ⟨cs, (h V).symm.trans h1, h2⟩, rfl, rfl⟩
theorem CallOK.whole {P : Program} {Γ : Env} {f : FuncId} {vs : List SV} {lab F l0 : Nat} {B B' C C' : SB} {ty ty' : Option TypeId} {T0 wr : List (Nat × SB)} {v : SV} {n : List SB} {o o' : List Prop}
  (h : CallOK P Γ f vs (fun l => look l ((l0, B) :: T0)) lab F { obl := o, val := v, new := n, wr := (l0, B') :: wr })
  (hB : B.whole = some ty) (hC : C.whole = some ty) (hc : ∀ V, C.cells V = B.cells V) (hB' : B'.whole = some ty') (hC' : C'.whole = some ty') (hc' : ∀ V, B'.cells V = C'.cells V) :
  CallOK P Γ f vs (fun l => look l ((l0, C) :: T0)) lab F { obl := o', val := v, new := n, wr := (l0, C') :: wr } := by
 intro w0 M V T2 w ys hsub hT hg hf hF hx op a K Q hK
 have h0 := hsub l0 _ (look_cons_eq _ _ _)
 obtain ⟨k1, k2, k3⟩ := whole_ok hC hB hc V w l0
 have hT1 := hT.swap (C := B) h0 k1 k2 k3 (whole_plain hB)
 refine h w0 M V _ w ys (fun l B hl => ?_) hT1 hg hf hF hx op a K Q fun V' x w' h1 h2 h3 => hK V' x w' h1 h2 ?_
 ·rename_i B0
  have hl : look l ((l0, B0) :: T0) = some B := hl
  by_cases e : l = l0
  ·subst e; rw [look_cons_eq] at hl; simpa using hl
  ·rw [look_cons_ne (fun q => e q.symm)] at hl
   simp only [if_neg e]
   exact hsub l B (by show look l _ = _; rw [look_cons_ne (fun q => e q.symm)]; exact hl)
 ·obtain ⟨k1, k2, k3⟩ := whole_ok hB' hC' hc' V' w' l0
  have h4 := h3.swap (l0 := l0) (B := B') (C := C') (by simp only [upd, Eff.tab, List.cons_append, look_cons_eq]) k1 k2 k3 (whole_plain hC')
  have e : (fun l => if l = l0 then some C' else upd (fun l => if l = l0 then some B else T2 l) lab { obl := o, val := v, new := n, wr := (l0, B') :: wr } l) = upd T2 lab { obl := o', val := v, new := n, wr := (l0, C') :: wr } := by
   funext l
   simp only [upd, Eff.tab, List.cons_append]
   by_cases e : l = l0
   ·subst e; simp only [if_true, look_cons_eq]
   ·rw [look_cons_ne (fun q => e q.symm), look_cons_ne (fun q => e q.symm)]
    simp only [if_neg e]
  rw [← e]
  exact h4
theorem look_swap {α : Type} {a b : Nat} (h : a ≠ b) (x y : α) (r : List (Nat × α)) (l : Nat) : look l ((a, x) :: (b, y) :: r) = look l ((b, y) :: (a, x) :: r) := by
 by_cases e : a = l
 ·subst e; rw [look_cons_eq, look_cons_ne (fun q => h q.symm), look_cons_eq]
 ·rw [look_cons_ne e]
  by_cases e2 : b = l
  ·subst e2; rw [look_cons_eq, look_cons_eq]
  ·rw [look_cons_ne e2, look_cons_ne e2, look_cons_ne e]
theorem CallOK.wholeR {P : Program} {Γ : Env} {f : FuncId} {vs : List SV} {lab F l0 : Nat} {B C : SB} {ty : Option TypeId} {T0 : List (Nat × SB)} {e : Eff}
  (h : CallOK P Γ f vs (fun l => look l ((l0, B) :: T0)) lab F e)
  (hB : B.whole = some ty) (hC : C.whole = some ty) (hc : ∀ V, C.cells V = B.cells V) (hn : look l0 (e.tab lab) = none) :
  CallOK P Γ f vs (fun l => look l ((l0, C) :: T0)) lab F e := by
 intro w0 M V T2 w ys hsub hT hg hf hF hx op a K Q hK
 have h0 := hsub l0 _ (look_cons_eq _ _ _)
 obtain ⟨k1, k2, k3⟩ := whole_ok hC hB hc V w l0
 have hT1 := hT.swap (C := B) h0 k1 k2 k3 (whole_plain hB)
 refine h w0 M V _ w ys (fun l B hl => ?_) hT1 hg hf hF hx op a K Q fun V' x w' h1 h2 h3 => hK V' x w' h1 h2 ?_
 ·rename_i B0
  have hl : look l ((l0, B0) :: T0) = some B := hl
  by_cases e : l = l0
  ·subst e; rw [look_cons_eq] at hl; simpa using hl
  ·rw [look_cons_ne (fun q => e q.symm)] at hl
   simp only [if_neg e]
   exact hsub l B (by show look l _ = _; rw [look_cons_ne (fun q => e q.symm)]; exact hl)
 ·obtain ⟨k1, k2, k3⟩ := whole_ok hB hC (fun V => (hc V).symm) V' w' l0
  have h4 := h3.swap (l0 := l0) (B := B) (C := C) (by simp only [upd, hn, if_true]) k1 k2 k3 (whole_plain hC)
  have e : (fun l => if l = l0 then some C else upd (fun l => if l = l0 then some B else T2 l) lab e l) = upd T2 lab e := by
   funext l
   simp only [upd]
   by_cases e : l = l0
   ·subst e; simp only [if_true, hn, h0]
   ·simp only [if_neg e]
  rw [← e]
  exact h4
theorem CallOK.new1 {P : Program} {Γ : Env} {f : FuncId} {vs : List SV} {T : Tab} {lab F : Nat} {B C : SB} {ty : Option TypeId} {wr : List (Nat × SB)} {v : SV} {n : List SB} {o o' : List Prop}
  (h : CallOK P Γ f vs T lab F { obl := o, val := v, new := B :: n, wr := wr })
  (hB : B.whole = some ty) (hC : C.whole = some ty) (hc : ∀ V, B.cells V = C.cells V) (hn : look lab wr = none) :
  CallOK P Γ f vs T lab F { obl := o', val := v, new := C :: n, wr := wr } := by
 intro w0 M V T2 w ys hsub hT hg hf hF hx op a K Q hK
 refine h w0 M V T2 w ys hsub hT hg hf hF hx op a K Q fun V' x w' h1 h2 h3 => hK V' x w' h1 h2 ?_
 obtain ⟨k1, k2, k3⟩ := whole_ok hB hC hc V' w' lab
 have h4 := h3.swap (l0 := lab) (B := B) (C := C) (by simp only [upd, Eff.tab, newL]; rw [look_append, hn]; simp only [look_cons_eq]) k1 k2 k3 (whole_plain hC)
 have e : (fun l => if l = lab then some C else upd T2 lab { obl := o, val := v, new := B :: n, wr := wr } l) = upd T2 lab { obl := o', val := v, new := C :: n, wr := wr } := by
  funext l
  simp only [upd, Eff.tab, newL]
  rw [look_append, look_append]
  by_cases e : l = lab
  ·subst e; simp only [if_true, hn, look_cons_eq]
  ·rw [look_cons_ne (fun q => e q.symm), look_cons_ne (fun q => e q.symm)]
   simp only [if_neg e]
 rw [← e]
 exact h4
end Go.Proofs.YtjomfjihopegmaaGreatDoor.Sx
end
section
open Go
namespace Go.Proofs.YtjomfjihopegmaaGreatDoor.Sx
def bytesI (n : Nat) (xs : List Int) : List Int := (List.range n).map fun j => xs.getD j 0
theorem bytesI_eq {n : Nat} {xs : List Int} (h : xs.length = n) : bytesI n xs = xs := by
 unfold bytesI
 apply List.ext_getElem
 ·simp [h]
 ·intro i h1 h2
  simp [List.getD_eq_getElem?_getD, h2]
namespace B
def word (l : List Int) (i : Nat) : Int := bOr .u32 (bOr .u32 (bOr .u32 (IntKind.u32.wrap (l.getD (4 * i) 0)) (shlI .u32 (IntKind.u32.wrap (l.getD (4 * i + 1) 0)) 8)) (shlI .u32 (IntKind.u32.wrap (l.getD (4 * i + 2) 0)) 16)) (shlI .u32 (IntKind.u32.wrap (l.getD (4 * i + 3) 0)) 24)
def rot (x k : Int) : Int := bOr .u32 (shlI .u32 x k) (shrI .u32 x (32 - k))
def qr (v : List Int) (a b c d : Nat) : List Int :=
 let v := v.set a (IntKind.u32.wrap (v.getD a 0 + v.getD b 0))
 let v := v.set d (rot (bXor .u32 (v.getD d 0) (v.getD a 0)) 16)
 let v := v.set c (IntKind.u32.wrap (v.getD c 0 + v.getD d 0))
 let v := v.set b (rot (bXor .u32 (v.getD b 0) (v.getD c 0)) 12)
 let v := v.set a (IntKind.u32.wrap (v.getD a 0 + v.getD b 0))
 let v := v.set d (rot (bXor .u32 (v.getD d 0) (v.getD a 0)) 8)
 let v := v.set c (IntKind.u32.wrap (v.getD c 0 + v.getD d 0))
 v.set b (rot (bXor .u32 (v.getD b 0) (v.getD c 0)) 7)
def dr (v : List Int) : List Int :=
 qr (qr (qr (qr (qr (qr (qr (qr v 0 4 8 12) 1 5 9 13) 2 6 10 14) 3 7 11 15) 0 5 10 15) 1 6 11 12) 2 7 8 13) 3 4 9 14
def rounds (n : Nat) (v : List Int) : List Int := match n with
 | 0 => v
 | n + 1 => rounds n (dr v)
def init (key nonce : List Int) (ctr : Int) : List Int := [1634760805, 857760878, 2036477234, 1797285236] ++ (List.range 8).map (word key) ++ [ctr] ++ (List.range 3).map (word nonce)
def out (v w : List Int) : List Int := (List.range 64).map fun j => IntKind.u8.wrap (shrI .u32 (IntKind.u32.wrap (v.getD (j / 4) 0 + w.getD (j / 4) 0)) (IntKind.i64.wrap (8 * (j % 4 : Nat))))
def block (key nonce : List Int) (ctr : Int) : List Int := out (rounds 10 (init key nonce ctr)) (init key nonce ctr)
end B
def ksAt (key nonce : List Int) (c : Int) (i : Nat) : Int := (B.block key nonce (IntKind.u32.wrap (c + (i / 64 : Nat)))).getD (i % 64) 0
def xorTo (key nonce : List Int) (c : Int) (off n : Nat) (xs : List Int) : List Int :=
 (List.range xs.length).map fun m => if off ≤ m ∧ m < off + n then bXor .u8 (xs.getD m 0) (ksAt key nonce c (m - off)) else xs.getD m 0
theorem xorTo_length (key nonce : List Int) (c : Int) (off n : Nat) (xs : List Int) : (xorTo key nonce c off n xs).length = xs.length := by simp [xorTo]
theorem xorTo_get (key nonce : List Int) (c : Int) (off n : Nat) (xs : List Int) {m : Nat} (h : m < xs.length) : (xorTo key nonce c off n xs).getD m 0 = if off ≤ m ∧ m < off + n then bXor .u8 (xs.getD m 0) (ksAt key nonce c (m - off)) else xs.getD m 0 := by
 simp [xorTo, List.getD_eq_getElem?_getD, h]
theorem xorTo_zero (key nonce : List Int) (c : Int) (off : Nat) (xs : List Int) : xorTo key nonce c off 0 xs = xs := by
 apply List.ext_getElem
 ·simp [xorTo]
 ·intro i h1 h2
  have : ¬ (off ≤ i ∧ i < off + 0) := by omega
  simp only [xorTo, List.getElem_map, List.getElem_range, if_neg this]
  simp [List.getD_eq_getElem?_getD, h2]
theorem xorTo_succ (key nonce : List Int) (c : Int) (off n : Nat) (xs : List Int) (h : off + n < xs.length) :
  (xorTo key nonce c off n xs).set (off + n) (bXor .u8 ((xorTo key nonce c off n xs).getD (off + n) 0) (ksAt key nonce c n)) = xorTo key nonce c off (n + 1) xs := by
 apply List.ext_getElem
 ·simp [xorTo]
 ·intro i h1 h2
  have hl : i < xs.length := by simpa [xorTo] using h2
  rw [List.getElem_set]
  split
  ·rename_i e
   subst e
   rw [xorTo_get _ _ _ _ _ _ h, if_neg (by omega)]
   simp only [xorTo, List.getElem_map, List.getElem_range]
   rw [if_pos (by omega), Nat.add_sub_cancel_left]
  ·rename_i e
   simp only [xorTo, List.getElem_map, List.getElem_range]
   by_cases hc : off ≤ i ∧ i < off + n
   ·rw [if_pos hc, if_pos (by omega)]
   ·rw [if_neg hc, if_neg (by omega)]
end Go.Proofs.YtjomfjihopegmaaGreatDoor.Sx
end
section
open Go
namespace Go.Proofs.YtjomfjihopegmaaGreatDoor.Sx
namespace D
def iv : List Int := [1779033703, 3144134277, 1013904242, 2773480762, 1359893119, 2600822924, 528734635, 1541459225]
def mix (v : List Int) (a b c d : Nat) (x y : Int) : List Int :=
 let v := v.set a (IntKind.u32.wrap (v.getD a 0 + IntKind.u32.wrap (v.getD b 0 + x)))
 let v := v.set d (B.rot (bXor .u32 (v.getD d 0) (v.getD a 0)) 16)
 let v := v.set c (IntKind.u32.wrap (v.getD c 0 + v.getD d 0))
 let v := v.set b (B.rot (bXor .u32 (v.getD b 0) (v.getD c 0)) 20)
 let v := v.set a (IntKind.u32.wrap (v.getD a 0 + IntKind.u32.wrap (v.getD b 0 + y)))
 let v := v.set d (B.rot (bXor .u32 (v.getD d 0) (v.getD a 0)) 24)
 let v := v.set c (IntKind.u32.wrap (v.getD c 0 + v.getD d 0))
 v.set b (B.rot (bXor .u32 (v.getD b 0) (v.getD c 0)) 25)
def round (v : List Int) (m0 m1 m2 m3 m4 m5 m6 m7 m8 m9 m10 m11 m12 m13 m14 m15 : Int) : List Int :=
 mix (mix (mix (mix (mix (mix (mix (mix v 0 4 8 12 m0 m1) 1 5 9 13 m2 m3) 2 6 10 14 m4 m5) 3 7 11 15 m6 m7) 0 5 10 15 m8 m9) 1 6 11 12 m10 m11) 2 7 8 13 m12 m13) 3 4 9 14 m14 m15
def roundM (v m : List Int) (s : List Nat) : List Int :=
 let g (i : Nat) : Int := m.getD (s.getD i 0) 0
 round v (g 0) (g 1) (g 2) (g 3) (g 4) (g 5) (g 6) (g 7) (g 8) (g 9) (g 10) (g 11) (g 12) (g 13) (g 14) (g 15)
def orders : List (List Nat) := [[0, 1, 2, 3, 4, 5, 6, 7, 8, 9, 10, 11, 12, 13, 14, 15], [14, 10, 4, 8, 9, 15, 13, 6, 1, 12, 0, 2, 11, 7, 5, 3], [11, 8, 12, 0, 5, 2, 15, 13, 10, 14, 3, 6, 7, 1, 9, 4],
 [7, 9, 3, 1, 13, 12, 11, 14, 2, 6, 5, 10, 4, 0, 15, 8], [9, 0, 5, 7, 2, 4, 10, 15, 14, 1, 11, 12, 6, 8, 3, 13], [2, 12, 6, 10, 0, 11, 8, 3, 4, 13, 7, 5, 15, 14, 1, 9],
 [12, 5, 1, 15, 14, 13, 4, 10, 0, 7, 6, 3, 9, 2, 8, 11], [13, 11, 7, 14, 12, 1, 3, 9, 5, 0, 15, 4, 8, 6, 2, 10], [6, 15, 14, 9, 11, 3, 0, 8, 12, 2, 13, 7, 1, 4, 10, 5], [10, 2, 8, 4, 7, 6, 1, 5, 15, 11, 9, 14, 3, 12, 13, 0]]
def rounds (v m : List Int) : List Int := orders.foldl (fun v s => roundM v m s) v
def start (s : List Int) (cnt last : Int) : List Int :=
 bytesI 8 s ++ [1779033703, 3144134277, 1013904242, 2773480762, bXor .u32 1359893119 (IntKind.u32.wrap cnt), bXor .u32 2600822924 (IntKind.u32.wrap (shrI .u64 cnt 32)), bXor .u32 528734635 last, 1541459225]
def words (blk : List Int) : List Int := (List.range 16).map (B.word blk)
def press (s blk : List Int) (cnt last : Int) : List Int :=
 let v := rounds (start s cnt last) (words blk)
 (List.range 8).map fun i => bXor .u32 (s.getD i 0) (bXor .u32 (v.getD i 0) (v.getD (8 + i) 0))
theorem press_length (s blk : List Int) (cnt last : Int) : (press s blk cnt last).length = 8 := by simp [press]
def h0 : List Int := [1795745351, 3144134277, 1013904242, 2773480762, 1359893119, 2600822924, 528734635, 1541459225]
def hs (ms : List Int) : Nat → List Int
 | 0 => h0
 | b + 1 => press (hs ms b) (bytesI 64 (ms.drop (64 * b))) ((64 * (b + 1) : Nat) : Int) 0
def nb (n : Nat) : Nat := (n - 1) / 64
def fin (ms : List Int) : List Int := press (hs ms (nb ms.length)) (bytesI 64 (ms.drop (64 * nb ms.length))) (ms.length : Int) 4294967295
def bytes (s : List Int) : List Int := (List.range 32).map fun i => IntKind.u8.wrap (shrI .u32 (s.getD (i / 4) 0) (IntKind.i64.wrap (8 * (i % 4 : Nat))))
def hash (ms : List Int) : List Int := bytes (fin ms)
theorem hash_length (ms : List Int) : (hash ms).length = 32 := by simp [hash, bytes]
theorem hs_length (ms : List Int) : ∀ b, (hs ms b).length = 8
 | 0 => rfl
 | _ + 1 => press_length _ _ _ _
structure HS where
 st : List Int
 cnt : Int
 blk : List Int
 held : Nat
def HS.put (S : HS) (c : Int) : HS := if S.held = 64 then ⟨press S.st S.blk (S.cnt + 64) 0, S.cnt + 64, S.blk.set 0 c, 1⟩ else ⟨S.st, S.cnt, S.blk.set S.held c, S.held + 1⟩
def HS.take (S : HS) (d : List Int) : HS := d.foldl HS.put S
def S0 : HS := ⟨h0, 0, List.replicate 64 0, 0⟩
def st (ms : List Int) : HS := S0.take ms
theorem st_append (ms d : List Int) : (st ms).take d = st (ms ++ d) := by simp [st, HS.take, List.foldl_append]
structure HS.WF (S : HS) (n : Nat) : Prop where
 sl : S.st.length = 8
 bl : S.blk.length = 64
 hl : S.held ≤ 64
 cnt : S.cnt + S.held = n
 c0 : 0 ≤ S.cnt
theorem WF_put {S : HS} {n : Nat} (h : S.WF n) (c : Int) : (S.put c).WF (n + 1) := by
 obtain ⟨h1, h2, h3, h4, h5⟩ := h
 unfold HS.put
 split
 ·exact ⟨press_length _ _ _ _, by simpa using h2, by simp, by simp only; omega, by simp only; omega⟩
 ·exact ⟨h1, by simpa using h2, by simp only; omega, by simp only; omega, h5⟩
theorem WF_take : ∀ {d : List Int} {S : HS} {n : Nat}, S.WF n → (S.take d).WF (n + d.length)
 | [], _, _, h => h
 | c :: d, S, n, h => by
   have := WF_take (d := d) (WF_put h c)
   rw [Nat.add_assoc, Nat.add_comm 1] at this
   exact this
theorem WF_S0 : S0.WF 0 := ⟨rfl, rfl, by decide, rfl, by decide⟩
theorem WF_st (ms : List Int) : (st ms).WF ms.length := by have := WF_take (d := ms) WF_S0; rwa [Nat.zero_add] at this
theorem take_fit : ∀ {d : List Int} {S : HS}, S.blk.length = 64 → S.held + d.length ≤ 64 → S.take d = ⟨S.st, S.cnt, S.blk.take S.held ++ d ++ S.blk.drop (S.held + d.length), S.held + d.length⟩
 | [], S, hb, _ => by simp [HS.take]
 | c :: d, S, hb, h => by
   simp only [List.length_cons] at h
   have e : S.put c = ⟨S.st, S.cnt, S.blk.set S.held c, S.held + 1⟩ := by unfold HS.put; rw [if_neg (by omega)]
   show (S.put c).take d = _
   rw [e, take_fit (by simpa using hb) (by simp only; omega)]
   have hlt : S.held < S.blk.length := by omega
   have e1 : (S.blk.set S.held c).take (S.held + 1) = S.blk.take S.held ++ [c] := by
    rw [List.take_add_one, List.take_set_of_le (Nat.le_refl _)]
    simp [hlt]
   have e2 : (S.blk.set S.held c).drop (S.held + 1 + d.length) = S.blk.drop (S.held + (d.length + 1)) := by
    rw [List.drop_set_of_lt (by omega)]
    congr 1
    omega
   simp only [e1, e2, List.length_cons]
   congr 1
   ·simp
   ·omega
theorem take_full {d : List Int} {S : HS} (h : S.held = 64) (hd : d ≠ []) : S.take d = HS.take ⟨press S.st S.blk (S.cnt + 64) 0, S.cnt + 64, S.blk, 0⟩ d := by
 cases d with
 | nil => exact (hd rfl).elim
 | cons c d =>
   show (S.put c).take d = HS.take (HS.put _ c) d
   unfold HS.put
   rw [if_pos h, if_neg (by simp)]
structure Good (S : HS) (ms : List Int) : Prop where
 wf : S.WF ms.length
 cnt : S.cnt = ((64 * nb ms.length : Nat) : Int)
 st : S.st = hs ms (nb ms.length)
 blk : ∀ j, j < S.held → S.blk.getD j 0 = ms.getD (64 * nb ms.length + j) 0
theorem hs_append (ms d : List Int) : ∀ b, 64 * b ≤ ms.length → hs (ms ++ d) b = hs ms b
 | 0, _ => rfl
 | b + 1, h => by
   simp only [hs]
   rw [hs_append ms d b (by omega)]
   congr 1
   unfold bytesI
   apply List.map_congr_left
   intro j hj
   have hj : j < 64 := by simpa using hj
   simp only [List.getD_eq_getElem?_getD, List.getElem?_drop]
   rw [List.getElem?_append_left (by omega)]
theorem Good_S0 : Good S0 [] := ⟨WF_S0, rfl, rfl, fun j hj => by simp [S0] at hj⟩
theorem getD_append_lt (ms d : List Int) {i : Nat} (h : i < ms.length) : (ms ++ d).getD i 0 = ms.getD i 0 := by
 simp [List.getD_eq_getElem?_getD, List.getElem?_append_left h]
theorem getD_append_at (ms : List Int) (c : Int) : (ms ++ [c]).getD ms.length 0 = c := by
 simp [List.getD_eq_getElem?_getD]
theorem Good_put {S : HS} {ms : List Int} (h : Good S ms) (c : Int) : Good (S.put c) (ms ++ [c]) := by
 obtain ⟨hwf, hc, hst, hb⟩ := h
 have hw := hwf
 obtain ⟨w1, w2, w3, w4, w5⟩ := hw
 have hn : (ms ++ [c]).length = ms.length + 1 := by simp
 have hheld : S.held + 64 * nb ms.length = ms.length := by omega
 refine ⟨by rw [hn]; exact WF_put hwf c, ?_, ?_, ?_⟩
 all_goals rw [hn]
 all_goals unfold HS.put
 all_goals split
 ·rename_i h64; simp only [hc]; unfold nb at *; omega
 ·rename_i h64; simp only [hc]; unfold nb at *; omega
 ·rename_i h64
  have e : nb (ms.length + 1) = nb ms.length + 1 := by unfold nb at *; omega
  rw [e]
  simp only [hs]
  rw [hs_append ms [c] _ (by omega), hst, hc]
  have e2 : S.blk = bytesI 64 ((ms ++ [c]).drop (64 * nb ms.length)) := by
   rw [← bytesI_eq w2]
   unfold bytesI
   apply List.map_congr_left
   intro j hj
   have hj : j < 64 := by simpa using hj
   rw [hb j (by omega)]
   simp only [List.getD_eq_getElem?_getD, List.getElem?_drop]
   rw [List.getElem?_append_left (by omega)]
  rw [← e2]
  congr 1
 ·rename_i h64
  have e : nb (ms.length + 1) = nb ms.length := by unfold nb at *; omega
  rw [e, hs_append ms [c] _ (by omega), hst]
 ·rename_i h64
  have e : nb (ms.length + 1) = nb ms.length + 1 := by unfold nb at *; omega
  intro j hj
  have hj : j = 0 := by simp only at hj; omega
  subst hj
  rw [e]
  have : 64 * (nb ms.length + 1) + 0 = ms.length := by omega
  rw [this, getD_append_at]
  simp [List.getD_eq_getElem?_getD, w2]
 ·rename_i h64
  have e : nb (ms.length + 1) = nb ms.length := by unfold nb at *; omega
  intro j hj
  simp only at hj
  rw [e]
  by_cases hlt : j = S.held
  ·subst hlt
   have : 64 * nb ms.length + S.held = ms.length := by omega
   rw [this, getD_append_at]
   simp [List.getD_eq_getElem?_getD, w2, show S.held < 64 by omega]
  ·have hne : S.held ≠ j := fun e => hlt e.symm
   rw [getD_append_lt _ _ (by omega), ← hb j (by omega)]
   simp [List.getD_eq_getElem?_getD, List.getElem?_set_ne hne]
theorem Good_take : ∀ {d : List Int} {S : HS} {ms : List Int}, Good S ms → Good (S.take d) (ms ++ d)
 | [], _, _, h => by simpa [HS.take] using h
 | c :: d, S, ms, h => by
   have := Good_take (d := d) (Good_put h c)
   simpa [HS.take] using this
theorem Good_st (ms : List Int) : Good (st ms) ms := by have := Good_take (d := ms) Good_S0; rwa [List.nil_append] at this
theorem st_fin (ms : List Int) : press (st ms).st ((st ms).blk.take (st ms).held ++ List.replicate (64 - (st ms).held) 0) ((st ms).cnt + (st ms).held) 4294967295 = fin ms := by
 obtain ⟨hwf, hc, hst, hb⟩ := Good_st ms
 generalize st ms = S at *
 obtain ⟨w1, w2, w3, w4, w5⟩ := hwf
 unfold fin
 rw [hst, w4]
 congr 1
 have hheld : S.held + 64 * nb ms.length = ms.length := by omega
 unfold bytesI
 apply List.ext_getElem
 ·simp; omega
 ·intro j h1 h2
  have hj : j < 64 := by simpa using h2
  simp only [List.getElem_map, List.getElem_range]
  by_cases hlt : j < S.held
  ·rw [List.getElem_append_left (by simp; omega)]
   have := hb j hlt
   simp only [List.getD_eq_getElem?_getD, List.getElem?_drop] at this ⊢
   rw [← this]
   simp [show j < S.blk.length by omega]
  ·rw [List.getElem_append_right (by simp; omega)]
   simp only [List.getElem_replicate, List.getD_eq_getElem?_getD, List.getElem?_drop]
   rw [List.getElem?_eq_none (by omega)]
   rfl
end D
end Go.Proofs.YtjomfjihopegmaaGreatDoor.Sx
end
section
open Go
namespace Go.Proofs.YtjomfjihopegmaaGreatDoor.Sx
def W (x : Int) : Prop := 0 ≤ x ∧ x < 4294967296
theorem W.nat {x : Int} (h : W x) : ∃ a : Nat, x = a ∧ a < 4294967296 := ⟨x.toNat, by unfold W at h; omega, by unfold W at h; omega⟩
theorem xor_u32 (a b : Nat) (ha : a < 4294967296) (hb : b < 4294967296) : bXor .u32 a b = ((a ^^^ b : Nat) : Int) := by
 have h1 : a ^^^ b < 2 ^ 32 := Nat.xor_lt_two_pow (by simpa using ha) (by simpa using hb)
 unfold bXor
 rw [show IntKind.u32.bits = 32 from rfl, IntKind.wrap_u32]
 simp only [BitVec.toNat_xor, BitVec.toNat_ofInt]
 rw [show ((a : Int) % ((2 ^ 32 : Nat) : Int)).toNat = a from by omega, show ((b : Int) % ((2 ^ 32 : Nat) : Int)).toNat = b from by omega]
 omega
theorem xor_i64 (a b : Nat) (ha : a < 4294967296) (hb : b < 4294967296) : bXor .i64 a b = ((a ^^^ b : Nat) : Int) := by
 have h1 : a ^^^ b < 2 ^ 32 := Nat.xor_lt_two_pow (by simpa using ha) (by simpa using hb)
 unfold bXor
 rw [show IntKind.i64.bits = 64 from rfl, IntWalk.i64_in]
 ·simp only [BitVec.toNat_xor, BitVec.toNat_ofInt]
  rw [show ((a : Int) % ((2 ^ 64 : Nat) : Int)).toNat = a from by omega, show ((b : Int) % ((2 ^ 64 : Nat) : Int)).toNat = b from by omega]
 ·simp only [BitVec.toNat_xor, BitVec.toNat_ofInt]
  rw [show ((a : Int) % ((2 ^ 64 : Nat) : Int)).toNat = a from by omega, show ((b : Int) % ((2 ^ 64 : Nat) : Int)).toNat = b from by omega]
  omega
theorem or_u32 (a b : Nat) (ha : a < 4294967296) (hb : b < 4294967296) : bOr .u32 a b = ((a ||| b : Nat) : Int) := by
 have h1 : a ||| b < 2 ^ 32 := Nat.or_lt_two_pow (by simpa using ha) (by simpa using hb)
 unfold bOr
 rw [show IntKind.u32.bits = 32 from rfl, IntKind.wrap_u32]
 simp only [BitVec.toNat_or, BitVec.toNat_ofInt]
 rw [show ((a : Int) % ((2 ^ 32 : Nat) : Int)).toNat = a from by omega, show ((b : Int) % ((2 ^ 32 : Nat) : Int)).toNat = b from by omega]
 omega
theorem xor_W {x y : Int} (hx : W x) (hy : W y) : bXor .u32 x y = bXor .i64 x y ∧ W (bXor .u32 x y) := by
 obtain ⟨a, rfl, ha⟩ := hx.nat
 obtain ⟨b, rfl, hb⟩ := hy.nat
 have h1 : a ^^^ b < 2 ^ 32 := Nat.xor_lt_two_pow (by simpa using ha) (by simpa using hb)
 rw [xor_u32 a b ha hb, xor_i64 a b ha hb]
 exact ⟨rfl, by unfold W; omega⟩
theorem or_add (k a b : Nat) (hb : b < 2 ^ k) : (2 ^ k * a) ||| b = 2 ^ k * a + b := (Nat.two_pow_add_eq_or_of_lt hb a).symm
def Ws (v : List Int) : Prop := ∀ x ∈ v, W x
theorem Ws.get {v : List Int} (h : Ws v) (i : Nat) : W (v.getD i 0) := by
 rw [List.getD_eq_getElem?_getD]
 cases hv : v[i]? with
 | none => exact ⟨by decide, by decide⟩
 | some x => exact h x (List.mem_of_getElem? hv)
theorem Ws.set {v : List Int} (h : Ws v) (i : Nat) {x : Int} (hx : W x) : Ws (v.set i x) := by
 intro y hy
 rcases List.mem_or_eq_of_mem_set hy with hy | hy
 ·exact h y hy
 ·subst hy; exact hx
namespace R8
def plus (x y : Int) : Int := (IntKind.i64.wrap (x + y)).tmod 4294967296
def add3 (x y z : Int) : Int := (IntKind.i64.wrap (IntKind.i64.wrap (x + y) + z)).tmod 4294967296
def turn (x u q : Int) : Int := IntKind.i64.wrap (IntKind.i64.wrap (x.tdiv u) + IntKind.i64.wrap (x.tmod u * q))
def mix (v : List Int) (a b c d : Nat) (x y : Int) : List Int :=
 let v := v.set a (add3 (v.getD a 0) (v.getD b 0) x)
 let v := v.set d (turn (bXor .i64 (v.getD d 0) (v.getD a 0)) 65536 65536)
 let v := v.set c (plus (v.getD c 0) (v.getD d 0))
 let v := v.set b (turn (bXor .i64 (v.getD b 0) (v.getD c 0)) 4096 1048576)
 let v := v.set a (add3 (v.getD a 0) (v.getD b 0) y)
 let v := v.set d (turn (bXor .i64 (v.getD d 0) (v.getD a 0)) 256 16777216)
 let v := v.set c (plus (v.getD c 0) (v.getD d 0))
 v.set b (turn (bXor .i64 (v.getD b 0) (v.getD c 0)) 128 33554432)
end R8
theorem plus8_W {x y : Int} (hx : W x) (hy : W y) : IntKind.u32.wrap (x + y) = R8.plus x y ∧ W (R8.plus x y) := by
 unfold W at hx hy
 unfold R8.plus W
 rw [IntWalk.i64_in _ (by omega), Int.tmod_eq_emod_of_nonneg (by omega), IntKind.wrap_u32]
 omega
theorem add3_W {x y z : Int} (hx : W x) (hy : W y) (hz : W z) : IntKind.u32.wrap (x + IntKind.u32.wrap (y + z)) = R8.add3 x y z ∧ W (R8.add3 x y z) := by
 unfold W at hx hy hz
 unfold R8.add3 W
 rw [IntWalk.i64_in (x + y) (by omega), IntWalk.i64_in _ (by omega), Int.tmod_eq_emod_of_nonneg (by omega), IntKind.wrap_u32, IntKind.wrap_u32]
 omega
theorem rotr_W {x : Int} (hx : W x) (k m : Nat) (hkm : k + m = 32) (u q : Int) (hu : u = ((2 ^ k : Nat) : Int)) (hq : q = ((2 ^ m : Nat) : Int)) : B.rot x m = R8.turn x u q ∧ W (R8.turn x u q) := by
 obtain ⟨a, rfl, ha⟩ := hx.nat
 have hpp : 2 ^ k * 2 ^ m = 4294967296 := by rw [← Nat.pow_add, hkm]
 have hp0 : 0 < 2 ^ k := Nat.pow_pos (by omega)
 have hp1 : 0 < 2 ^ m := Nat.pow_pos (by omega)
 have hlt : a / 2 ^ k < 2 ^ m := by
  rw [Nat.div_lt_iff_lt_mul hp0, Nat.mul_comm, hpp]; exact ha
 have hmod : a % 2 ^ k < 2 ^ k := Nat.mod_lt _ hp0
 have hsum : 2 ^ m * (a % 2 ^ k) + a / 2 ^ k < 4294967296 := by
  have : 2 ^ m * (a % 2 ^ k) + 2 ^ m ≤ 2 ^ m * 2 ^ k := by
   rw [← Nat.mul_succ]; exact Nat.mul_le_mul_left _ hmod
  rw [Nat.mul_comm (2 ^ m) (2 ^ k), hpp] at this
  omega
 have e2 : a * 2 ^ m % 4294967296 = 2 ^ m * (a % 2 ^ k) := by
  rw [← hpp, Nat.mul_comm a, Nat.mul_comm (2 ^ k), Nat.mul_mod_mul_left]
 have hL : B.rot (a : Int) m = ((2 ^ m * (a % 2 ^ k) + a / 2 ^ k : Nat) : Int) := by
  unfold B.rot shlI shrI
  rw [show IntKind.u32.bits = 32 from rfl, show ((m : Nat) : Int).toNat = m from rfl, show ((32 : Int) - (m : Int)).toNat = k from by omega, Nat.min_eq_left (by omega), Nat.min_eq_left (by omega), IntKind.wrap_u32]
  have h1 : (a : Int) * 2 ^ m % 4294967296 = ((a * 2 ^ m % 4294967296 : Nat) : Int) := by rw [Int.natCast_emod, Int.natCast_mul, Int.natCast_pow]; rfl
  have h2 : (a : Int).fdiv (2 ^ k) = ((a / 2 ^ k : Nat) : Int) := by
   rw [show ((2 : Int) ^ k) = ((2 ^ k : Nat) : Int) from by rw [Int.natCast_pow]; rfl, Int.fdiv_eq_ediv_of_nonneg _ (by omega)]; rfl
  rw [h1, h2, e2, or_u32 _ _ (Nat.lt_of_le_of_lt (Nat.le_add_right _ _) hsum) (Nat.lt_of_le_of_lt (Nat.le_add_left _ _) hsum), or_add m _ _ hlt]
 have hR : R8.turn (a : Int) u q = ((2 ^ m * (a % 2 ^ k) + a / 2 ^ k : Nat) : Int) := by
  unfold R8.turn
  subst hu hq
  have h3 : (a : Int).tdiv ((2 ^ k : Nat) : Int) = ((a / 2 ^ k : Nat) : Int) := by rw [Int.tdiv_eq_ediv_of_nonneg (by omega)]; rfl
  have h4 : (a : Int).tmod ((2 ^ k : Nat) : Int) = ((a % 2 ^ k : Nat) : Int) := by rw [Int.tmod_eq_emod_of_nonneg (by omega)]; rfl
  have h5 : ((a % 2 ^ k : Nat) : Int) * ((2 ^ m : Nat) : Int) = ((2 ^ m * (a % 2 ^ k) : Nat) : Int) := by rw [Nat.mul_comm, Int.natCast_mul]
  rw [h3, h4, h5]
  generalize a / 2 ^ k = z1 at *
  generalize 2 ^ m * (a % 2 ^ k) = z2 at *
  rw [IntWalk.i64_in (z1 : Int) (by omega), IntWalk.i64_in (z2 : Int) (by omega), IntWalk.i64_in _ (by omega)]
  omega
 exact ⟨hL.trans hR.symm, by rw [hR]; generalize 2 ^ m * (a % 2 ^ k) + a / 2 ^ k = z at hsum ⊢; unfold W; omega⟩
theorem mix_W {v : List Int} (h : Ws v) (a b c d : Nat) {x y : Int} (hx : W x) (hy : W y) : D.mix v a b c d x y = R8.mix v a b c d x y ∧ Ws (R8.mix v a b c d x y) := by
 unfold D.mix R8.mix
 have s1 := add3_W (h.get a) (h.get b) hx
 have g1 := h.set a s1.2
 rw [s1.1]
 generalize v.set a (R8.add3 (v.getD a 0) (v.getD b 0) x) = v1 at g1
 have x2 := xor_W (g1.get d) (g1.get a)
 have s2 := rotr_W x2.2 16 16 rfl 65536 65536 rfl rfl
 rw [x2.1] at s2
 simp only [x2.1]
 have g2 := g1.set d s2.2
 rw [show B.rot (bXor .i64 (v1.getD d 0) (v1.getD a 0)) 16 = _ from s2.1]
 generalize v1.set d (R8.turn (bXor .i64 (v1.getD d 0) (v1.getD a 0)) 65536 65536) = v2 at g2
 have s3 := plus8_W (g2.get c) (g2.get d)
 have g3 := g2.set c s3.2
 rw [s3.1]
 generalize v2.set c (R8.plus (v2.getD c 0) (v2.getD d 0)) = v3 at g3
 have x4 := xor_W (g3.get b) (g3.get c)
 have s4 := rotr_W x4.2 12 20 rfl 4096 1048576 rfl rfl
 rw [x4.1] at s4
 simp only [x4.1]
 have g4 := g3.set b s4.2
 rw [show B.rot (bXor .i64 (v3.getD b 0) (v3.getD c 0)) 20 = _ from s4.1]
 generalize v3.set b (R8.turn (bXor .i64 (v3.getD b 0) (v3.getD c 0)) 4096 1048576) = v4 at g4
 have s5 := add3_W (g4.get a) (g4.get b) hy
 have g5 := g4.set a s5.2
 rw [s5.1]
 generalize v4.set a (R8.add3 (v4.getD a 0) (v4.getD b 0) y) = v5 at g5
 have x6 := xor_W (g5.get d) (g5.get a)
 have s6 := rotr_W x6.2 8 24 rfl 256 16777216 rfl rfl
 rw [x6.1] at s6
 simp only [x6.1]
 have g6 := g5.set d s6.2
 rw [show B.rot (bXor .i64 (v5.getD d 0) (v5.getD a 0)) 24 = _ from s6.1]
 generalize v5.set d (R8.turn (bXor .i64 (v5.getD d 0) (v5.getD a 0)) 256 16777216) = v6 at g6
 have s7 := plus8_W (g6.get c) (g6.get d)
 have g7 := g6.set c s7.2
 rw [s7.1]
 generalize v6.set c (R8.plus (v6.getD c 0) (v6.getD d 0)) = v7 at g7
 have x8 := xor_W (g7.get b) (g7.get c)
 have s8 := rotr_W x8.2 7 25 rfl 128 33554432 rfl rfl
 rw [x8.1] at s8
 simp only [x8.1]
 have g8 := g7.set b s8.2
 rw [show B.rot (bXor .i64 (v7.getD b 0) (v7.getD c 0)) 25 = _ from s8.1]
 exact ⟨rfl, g8⟩
theorem mix_length (v : List Int) (a b c d : Nat) (x y : Int) : (D.mix v a b c d x y).length = v.length := by simp [D.mix]
theorem mix8_length (v : List Int) (a b c d : Nat) (x y : Int) : (R8.mix v a b c d x y).length = v.length := by simp [R8.mix]
end Go.Proofs.YtjomfjihopegmaaGreatDoor.Sx
end
section
open Go
namespace Go.Proofs.YtjomfjihopegmaaGreatDoor.Sx
def Bt (x : Int) : Prop := 0 ≤ x ∧ x < 256
def Bts (v : List Int) : Prop := ∀ x ∈ v, Bt x
theorem Bts.get {v : List Int} (h : Bts v) (i : Nat) : Bt (v.getD i 0) := by
 rw [List.getD_eq_getElem?_getD]
 cases hv : v[i]? with
 | none => exact ⟨by decide, by decide⟩
 | some x => exact h x (List.mem_of_getElem? hv)
theorem Bt.nat {x : Int} (h : Bt x) : ∃ a : Nat, x = a ∧ a < 256 := ⟨x.toNat, by unfold Bt at h; omega, by unfold Bt at h; omega⟩
theorem shl_u32 (a k : Nat) (hk : k ≤ 32) (h : a * 2 ^ k < 4294967296) : shlI .u32 (a : Int) (k : Int) = ((a * 2 ^ k : Nat) : Int) := by
 unfold shlI
 rw [show IntKind.u32.bits = 32 from rfl, Int.toNat_natCast, Nat.min_eq_left hk, IntKind.wrap_u32, show (a : Int) * 2 ^ k = ((a * 2 ^ k : Nat) : Int) from by rw [Int.natCast_mul, Int.natCast_pow]; rfl]
 omega
theorem word_val {l : List Int} (h : Bts l) (i : Nat) : B.word l i = l.getD (4 * i) 0 + 256 * l.getD (4 * i + 1) 0 + 65536 * l.getD (4 * i + 2) 0 + 16777216 * l.getD (4 * i + 3) 0 ∧ W (B.word l i) := by
 unfold B.word
 obtain ⟨a, ea, ha⟩ := (h.get (4 * i)).nat
 obtain ⟨b, eb, hb⟩ := (h.get (4 * i + 1)).nat
 obtain ⟨c, ec, hc⟩ := (h.get (4 * i + 2)).nat
 obtain ⟨d, ed, hd⟩ := (h.get (4 * i + 3)).nat
 rw [ea, eb, ec, ed]
 have wr : ∀ x : Nat, x < 256 → IntKind.u32.wrap (x : Int) = x := fun x hx => IntWalk.u32_in _ (by omega)
 rw [wr a ha, wr b hb, wr c hc, wr d hd]
 rw [show shlI .u32 (b : Int) 8 = _ from shl_u32 b 8 (by omega) (by omega), show shlI .u32 (c : Int) 16 = _ from shl_u32 c 16 (by omega) (by omega), show shlI .u32 (d : Int) 24 = _ from shl_u32 d 24 (by omega) (by omega)]
 rw [or_u32 a (b * 2 ^ 8) (by omega) (by omega), show a ||| b * 2 ^ 8 = 2 ^ 8 * b + a from by rw [Nat.or_comm, Nat.mul_comm]; exact or_add 8 b a (by omega)]
 rw [or_u32 _ (c * 2 ^ 16) (by omega) (by omega), show (2 ^ 8 * b + a) ||| c * 2 ^ 16 = 2 ^ 16 * c + (2 ^ 8 * b + a) from by rw [Nat.or_comm, Nat.mul_comm c]; exact or_add 16 c _ (by omega)]
 rw [or_u32 _ (d * 2 ^ 24) (by omega) (by omega), show (2 ^ 16 * c + (2 ^ 8 * b + a)) ||| d * 2 ^ 24 = 2 ^ 24 * d + (2 ^ 16 * c + (2 ^ 8 * b + a)) from by rw [Nat.or_comm, Nat.mul_comm d]; exact or_add 24 d _ (by omega)]
 unfold W
 omega
namespace R8
def wd (xs : List Int) (n i : Nat) : Int :=
 (if 4 * i < n then xs.getD (4 * i) 0 else 0) + (if 4 * i + 1 < n then 256 * xs.getD (4 * i + 1) 0 else 0) + (if 4 * i + 2 < n then 65536 * xs.getD (4 * i + 2) 0 else 0) + (if 4 * i + 3 < n then 16777216 * xs.getD (4 * i + 3) 0 else 0)
def words (xs : List Int) (n : Nat) : List Int := (List.range 16).map (wd xs n)
def p256 : Nat → Int
 | 0 => 1
 | 1 => 256
 | 2 => 65536
 | _ => 16777216
theorem words_zero (xs : List Int) : words xs 0 = List.replicate 16 0 := by
 have h : ∀ i, wd xs 0 i = 0 := fun i => by simp [wd]
 unfold words
 rw [List.map_congr_left (g := fun _ => 0) fun i _ => h i]
 rfl
theorem words_length (xs : List Int) (n : Nat) : (words xs n).length = 16 := by simp [words]
theorem words_succ {xs : List Int} (hb : Bts xs) {n : Nat} (hn : n < 64) : (words xs n).set (n / 4) (IntKind.i64.wrap ((words xs n).getD (n / 4) 0 + xs.getD n 0 * p256 (n % 4))) = words xs (n + 1) := by
 have hw : (words xs n).getD (n / 4) 0 = wd xs n (n / 4) := by simp [words, List.getD_eq_getElem?_getD, show n / 4 < 16 by omega]
 rw [hw]
 have key : IntKind.i64.wrap (wd xs n (n / 4) + xs.getD n 0 * p256 (n % 4)) = wd xs (n + 1) (n / 4) := by
  have b0 := hb.get (4 * (n / 4))
  have b1 := hb.get (4 * (n / 4) + 1)
  have b2 := hb.get (4 * (n / 4) + 2)
  have b3 := hb.get (4 * (n / 4) + 3)
  unfold Bt at b0 b1 b2 b3
  unfold wd
  rcases (by omega : n % 4 = 0 ∨ n % 4 = 1 ∨ n % 4 = 2 ∨ n % 4 = 3) with h | h | h | h <;> rw [h]
  ·have e : xs.getD n 0 = xs.getD (4 * (n / 4)) 0 := by congr 1; omega
   rw [e, if_neg (by omega), if_neg (by omega), if_neg (by omega), if_neg (by omega), if_pos (by omega), if_neg (by omega), if_neg (by omega), if_neg (by omega), show p256 0 = 1 from rfl, IntWalk.i64_in _ (by omega)]
   omega
  ·have e : xs.getD n 0 = xs.getD (4 * (n / 4) + 1) 0 := by congr 1; omega
   rw [e, if_pos (by omega), if_neg (by omega), if_neg (by omega), if_neg (by omega), if_pos (by omega), if_pos (by omega), if_neg (by omega), if_neg (by omega), show p256 1 = 256 from rfl, IntWalk.i64_in _ (by omega)]
   omega
  ·have e : xs.getD n 0 = xs.getD (4 * (n / 4) + 2) 0 := by congr 1; omega
   rw [e, if_pos (by omega), if_pos (by omega), if_neg (by omega), if_neg (by omega), if_pos (by omega), if_pos (by omega), if_pos (by omega), if_neg (by omega), show p256 2 = 65536 from rfl, IntWalk.i64_in _ (by omega)]
   omega
  ·have e : xs.getD n 0 = xs.getD (4 * (n / 4) + 3) 0 := by congr 1; omega
   rw [e, if_pos (by omega), if_pos (by omega), if_pos (by omega), if_neg (by omega), if_pos (by omega), if_pos (by omega), if_pos (by omega), if_pos (by omega), show p256 3 = 16777216 from rfl, IntWalk.i64_in _ (by omega)]
   omega
 rw [key]
 unfold words
 apply List.ext_getElem
 ·simp
 ·intro i h1 h2
  rw [List.getElem_set]
  split
  ·rename_i e; subst e; simp
  ·rename_i e
   simp only [List.getElem_map, List.getElem_range]
   unfold wd
   have q : ∀ m, m / 4 = i → (m < n + 1) = (m < n) := fun m hm => propext (by have : m ≠ n := fun q => e (by rw [← q, hm]); omega)
   simp only [q (4 * i) (by omega), q (4 * i + 1) (by omega), q (4 * i + 2) (by omega), q (4 * i + 3) (by omega)]
theorem bytesI_Bts {xs : List Int} (h : Bts xs) (n : Nat) : Bts (bytesI n xs) := by
 intro x hx
 simp only [bytesI, List.mem_map] at hx
 obtain ⟨j, _, rfl⟩ := hx
 exact h.get j
theorem bytesI_get {xs : List Int} {n j : Nat} (h : j < n) : (bytesI n xs).getD j 0 = xs.getD j 0 := by
 simp [bytesI, List.getD_eq_getElem?_getD, h]
theorem words_all {xs : List Int} (h : Bts xs) (hl : xs.length ≤ 64) : D.words (bytesI 64 xs) = words xs xs.length ∧ Ws (words xs xs.length) := by
 have e : D.words (bytesI 64 xs) = words xs xs.length := by
  unfold D.words words
  refine List.map_congr_left fun i hi => ?_
  have hi : i < 16 := by simpa using hi
  rw [(word_val (bytesI_Bts h 64) i).1, bytesI_get (by omega), bytesI_get (by omega), bytesI_get (by omega), bytesI_get (by omega)]
  have z : ∀ j, ¬ j < xs.length → xs.getD j 0 = 0 := fun j hj => by simp [List.getD_eq_getElem?_getD, List.getElem?_eq_none (Nat.le_of_not_lt hj)]
  unfold wd
  congr 1
  ·congr 1
   ·congr 1
    ·split
     ·rfl
     ·rename_i hj; exact z _ hj
    ·split
     ·rfl
     ·rename_i hj; rw [z _ hj]; rfl
   ·split
    ·rfl
    ·rename_i hj; rw [z _ hj]; rfl
  ·split
   ·rfl
   ·rename_i hj; rw [z _ hj]; rfl
 refine ⟨e, ?_⟩
 rw [← e]
 intro x hx
 simp only [D.words, List.mem_map] at hx
 obtain ⟨i, _, rfl⟩ := hx
 exact (word_val (bytesI_Bts h 64) i).2
def round (v : List Int) (m0 m1 m2 m3 m4 m5 m6 m7 m8 m9 m10 m11 m12 m13 m14 m15 : Int) : List Int :=
 mix (mix (mix (mix (mix (mix (mix (mix v 0 4 8 12 m0 m1) 1 5 9 13 m2 m3) 2 6 10 14 m4 m5) 3 7 11 15 m6 m7) 0 5 10 15 m8 m9) 1 6 11 12 m10 m11) 2 7 8 13 m12 m13) 3 4 9 14 m14 m15
def roundM (v m : List Int) (s : List Nat) : List Int :=
 let g (i : Nat) : Int := m.getD (s.getD i 0) 0
 round v (g 0) (g 1) (g 2) (g 3) (g 4) (g 5) (g 6) (g 7) (g 8) (g 9) (g 10) (g 11) (g 12) (g 13) (g 14) (g 15)
def rounds (v m : List Int) (n : Nat) : List Int := (D.orders.take n).foldl (fun v s => roundM v m s) v
def start (h : List Int) (cnt last : Int) : List Int :=
 bytesI 8 h ++ [1779033703, 3144134277, 1013904242, 2773480762, bXor .i64 1359893119 (cnt.tmod 4294967296), bXor .i64 2600822924 ((IntKind.i64.wrap (cnt.tdiv 4294967296)).tmod 4294967296), bXor .i64 528734635 last, 1541459225]
def press (h blk : List Int) (cnt last : Int) : List Int :=
 let v := rounds (start h cnt last) (words blk blk.length) 10
 (List.range 8).map fun i => bXor .i64 (bXor .i64 (h.getD i 0) (v.getD i 0)) (v.getD (8 + i) 0)
end R8
theorem round_W {v : List Int} (h : Ws v) {m : List Int} (hm : Ws m) (s : List Nat) : D.roundM v m s = R8.roundM v m s ∧ Ws (R8.roundM v m s) := by
 unfold D.roundM R8.roundM D.round R8.round
 simp only
 have a1 := mix_W h 0 4 8 12 (hm.get (s.getD 0 0)) (hm.get (s.getD 1 0))
 rw [a1.1]
 have a2 := mix_W a1.2 1 5 9 13 (hm.get (s.getD 2 0)) (hm.get (s.getD 3 0))
 rw [a2.1]
 have a3 := mix_W a2.2 2 6 10 14 (hm.get (s.getD 4 0)) (hm.get (s.getD 5 0))
 rw [a3.1]
 have a4 := mix_W a3.2 3 7 11 15 (hm.get (s.getD 6 0)) (hm.get (s.getD 7 0))
 rw [a4.1]
 have a5 := mix_W a4.2 0 5 10 15 (hm.get (s.getD 8 0)) (hm.get (s.getD 9 0))
 rw [a5.1]
 have a6 := mix_W a5.2 1 6 11 12 (hm.get (s.getD 10 0)) (hm.get (s.getD 11 0))
 rw [a6.1]
 have a7 := mix_W a6.2 2 7 8 13 (hm.get (s.getD 12 0)) (hm.get (s.getD 13 0))
 rw [a7.1]
 have a8 := mix_W a7.2 3 4 9 14 (hm.get (s.getD 14 0)) (hm.get (s.getD 15 0))
 exact ⟨a8.1, a8.2⟩
theorem fold_W {f g : List Int → List Nat → List Int} (h : ∀ v s, Ws v → f v s = g v s ∧ Ws (g v s)) : ∀ (l : List (List Nat)) {v : List Int}, Ws v → l.foldl f v = l.foldl g v ∧ Ws (l.foldl g v)
 | [], _, hv => ⟨rfl, hv⟩
 | s :: l, v, hv => by
   have a := h v s hv
   have b := fold_W h l a.2
   rw [List.foldl_cons, List.foldl_cons, a.1]
   exact b
theorem rounds8_W {m : List Int} (hm : Ws m) (l : List (List Nat)) {v : List Int} (hv : Ws v) : l.foldl (fun v s => D.roundM v m s) v = l.foldl (fun v s => R8.roundM v m s) v ∧ Ws (l.foldl (fun v s => R8.roundM v m s) v) :=
 fold_W (fun v s h => round_W h hm s) l hv
theorem start_W {h : List Int} (hh : Ws h) {cnt last : Int} (hc : 0 ≤ cnt ∧ cnt < 1152921504606846976) (hl : W last) : D.start h cnt last = R8.start h cnt last ∧ Ws (R8.start h cnt last) := by
 have l1 : W (cnt.tmod 4294967296) := by rw [Int.tmod_eq_emod_of_nonneg hc.1]; unfold W; omega
 have e1 : IntKind.u32.wrap cnt = cnt.tmod 4294967296 := by rw [Int.tmod_eq_emod_of_nonneg hc.1, IntKind.wrap_u32]
 have e2 : IntKind.u32.wrap (shrI .u64 cnt 32) = (IntKind.i64.wrap (cnt.tdiv 4294967296)).tmod 4294967296 := by
  have h2 : shrI .u64 cnt 32 = cnt / 4294967296 := by
   unfold shrI
   rw [show IntKind.u64.bits = 64 from rfl, show ((32 : Int)).toNat = 32 from rfl, show min 32 64 = 32 from rfl, Int.fdiv_eq_ediv_of_nonneg _ (by decide)]
   rfl
  rw [h2, Int.tdiv_eq_ediv_of_nonneg hc.1, IntWalk.i64_in _ (by omega), Int.tmod_eq_emod_of_nonneg (by omega), IntKind.wrap_u32]
 have l2 : W ((IntKind.i64.wrap (cnt.tdiv 4294967296)).tmod 4294967296) := by
  rw [Int.tdiv_eq_ediv_of_nonneg hc.1, IntWalk.i64_in _ (by omega), Int.tmod_eq_emod_of_nonneg (by omega)]; unfold W; omega
 have x1 := xor_W (x := 1359893119) (by unfold W; omega) l1
 have x2 := xor_W (x := 2600822924) (by unfold W; omega) l2
 have x3 := xor_W (x := 528734635) (by unfold W; omega) hl
 unfold D.start R8.start
 rw [e1, e2, x1.1, x2.1, x3.1]
 rw [x1.1] at x1
 rw [x2.1] at x2
 rw [x3.1] at x3
 refine ⟨rfl, ?_⟩
 have y1 := x1.2
 have y2 := x2.2
 have y3 := x3.2
 clear x1 x2 x3 e1 e2 l1 l2
 generalize bXor .i64 1359893119 (cnt.tmod 4294967296) = z1 at y1 ⊢
 generalize bXor .i64 2600822924 ((IntKind.i64.wrap (cnt.tdiv 4294967296)).tmod 4294967296) = z2 at y2 ⊢
 generalize bXor .i64 528734635 last = z3 at y3 ⊢
 intro x hx
 rcases List.mem_append.1 hx with hx | hx
 ·simp only [bytesI, List.mem_map] at hx
  obtain ⟨j, _, rfl⟩ := hx
  exact hh.get j
 ·have w : ∀ k : Int, 0 ≤ k → k < 4294967296 → x = k → W x := fun k h1 h2 e => by subst e; exact ⟨h1, h2⟩
  simp only [List.mem_cons, List.not_mem_nil, or_false] at hx
  rcases hx with e | e | e | e | e | e | e | e
  ·exact w _ (by decide) (by decide) e
  ·exact w _ (by decide) (by decide) e
  ·exact w _ (by decide) (by decide) e
  ·exact w _ (by decide) (by decide) e
  ·exact w _ y1.1 y1.2 e
  ·exact w _ y2.1 y2.2 e
  ·exact w _ y3.1 y3.2 e
  ·exact w _ (by decide) (by decide) e
theorem press_W {h blk : List Int} (hh : Ws h) (hb : Bts blk) (hl : blk.length ≤ 64) {cnt last : Int} (hc : 0 ≤ cnt ∧ cnt < 1152921504606846976) (hla : W last) : D.press h (bytesI 64 blk) cnt last = R8.press h blk cnt last ∧ Ws (R8.press h blk cnt last) := by
 have a := start_W hh hc hla
 have m := R8.words_all hb hl
 have r := rounds8_W m.2 D.orders a.2
 unfold D.press R8.press D.rounds R8.rounds
 rw [a.1, m.1, r.1, show D.orders.take 10 = D.orders from rfl]
 simp only
 have hv := r.2
 generalize List.foldl (fun v s => R8.roundM v (R8.words blk blk.length) s) (R8.start h cnt last) D.orders = v at hv
 have key : ∀ i, bXor .u32 (h.getD i 0) (bXor .u32 (v.getD i 0) (v.getD (8 + i) 0)) = bXor .i64 (bXor .i64 (h.getD i 0) (v.getD i 0)) (v.getD (8 + i) 0) ∧ W (bXor .i64 (bXor .i64 (h.getD i 0) (v.getD i 0)) (v.getD (8 + i) 0)) := by
  intro i
  obtain ⟨a, ea, ha⟩ := (hh.get i).nat
  obtain ⟨b, eb, hb⟩ := (hv.get i).nat
  obtain ⟨c, ec, hc⟩ := (hv.get (8 + i)).nat
  have h1 : a ^^^ b < 2 ^ 32 := Nat.xor_lt_two_pow (by simpa using ha) (by simpa using hb)
  have h2 : b ^^^ c < 2 ^ 32 := Nat.xor_lt_two_pow (by simpa using hb) (by simpa using hc)
  have h3 : a ^^^ b ^^^ c < 2 ^ 32 := Nat.xor_lt_two_pow h1 (by simpa using hc)
  rw [ea, eb, ec, xor_u32 b c hb hc, xor_u32 a _ ha (by omega), xor_i64 a b ha hb, xor_i64 _ c (by omega) hc, Nat.xor_assoc]
  rw [Nat.xor_assoc] at h3
  exact ⟨rfl, by unfold W; omega⟩
 refine ⟨List.map_congr_left fun i _ => (key i).1, fun x hx => ?_⟩
 simp only [List.mem_map] at hx
 obtain ⟨i, _, rfl⟩ := hx
 exact (key i).2
end Go.Proofs.YtjomfjihopegmaaGreatDoor.Sx
end
section
open Go
namespace Go.Proofs.YtjomfjihopegmaaGreatDoor.Sx
theorem bytesI_take (xs : List Int) (n : Nat) : bytesI n (xs.take n) = bytesI n xs := by
 unfold bytesI
 refine List.map_congr_left fun j hj => ?_
 have hj : j < n := by simpa using hj
 simp [List.getD_eq_getElem?_getD, hj]
theorem Bts.drop {xs : List Int} (h : Bts xs) (n : Nat) : Bts (xs.drop n) := fun x hx => h x (List.mem_of_mem_drop hx)
theorem Bts.take {xs : List Int} (h : Bts xs) (n : Nat) : Bts (xs.take n) := fun x hx => h x (List.mem_of_mem_take hx)
theorem Bts.append {xs ys : List Int} (h : Bts xs) (k : Bts ys) : Bts (xs ++ ys) := fun x hx => (List.mem_append.1 hx).elim (h x) (k x)
theorem h0_W : Ws D.h0 := by
 intro x hx
 have w : ∀ k : Int, 0 ≤ k → k < 4294967296 → x = k → W x := fun k h1 h2 e => by subst e; exact ⟨h1, h2⟩
 simp only [D.h0, List.mem_cons, List.not_mem_nil, or_false] at hx
 rcases hx with e | e | e | e | e | e | e | e
 all_goals exact w _ (by decide) (by decide) e
theorem hs_step {ms : List Int} (hm : Bts ms) (b : Nat) (hb : 64 * b < 1152921504606846000) (h : Ws (D.hs ms b)) : R8.press (D.hs ms b) ((ms.drop (64 * b)).take 64) ((64 * (b + 1) : Nat) : Int) 0 = D.hs ms (b + 1) ∧ Ws (D.hs ms (b + 1)) := by
 have := press_W h ((hm.drop (64 * b)).take 64) (by simp; omega) (cnt := ((64 * (b + 1) : Nat) : Int)) (last := 0) (by omega) (by unfold W; omega)
 rw [bytesI_take] at this
 have e : D.hs ms (b + 1) = D.press (D.hs ms b) (bytesI 64 (ms.drop (64 * b))) ((64 * (b + 1) : Nat) : Int) 0 := rfl
 rw [e]
 exact ⟨this.1.symm, this.1 ▸ this.2⟩
theorem hs_W {ms : List Int} (hm : Bts ms) : ∀ b, 64 * b < 1152921504606846000 → Ws (D.hs ms b)
 | 0, _ => h0_W
 | b + 1, h => (hs_step hm b (by omega) (hs_W hm b (by omega))).2
theorem fin_step {ms : List Int} (hm : Bts ms) (hl : ms.length < 1152921504606846000) : R8.press (D.hs ms (D.nb ms.length)) (ms.drop (64 * D.nb ms.length)) (ms.length : Int) 4294967295 = D.fin ms ∧ Ws (D.fin ms) := by
 have := press_W (hs_W hm (D.nb ms.length) (by unfold D.nb; omega)) (hm.drop (64 * D.nb ms.length)) (by simp [D.nb]; omega) (cnt := (ms.length : Int)) (last := 4294967295) (by omega) (by unfold W; omega)
 unfold D.fin
 exact ⟨this.1.symm, this.1 ▸ this.2⟩
namespace R8
def byteAt (x : Int) : Nat → Int
 | 0 => IntKind.u8.wrap (x.tmod 256)
 | n + 1 => byteAt (IntKind.i64.wrap (x.tdiv 256)) n
def bytes (s : List Int) : List Int := (List.range 32).map fun i => byteAt (s.getD (i / 4) 0) (i % 4)
end R8
theorem bytes_W {s : List Int} (hs : Ws s) : R8.bytes s = D.bytes s ∧ Bts (D.bytes s) := by
 have key : ∀ j : Nat, R8.byteAt (s.getD (j / 4) 0) (j % 4) = IntKind.u8.wrap (shrI .u32 (s.getD (j / 4) 0) (IntKind.i64.wrap (8 * (j % 4 : Nat)))) := by
  intro j
  have hx := hs.get (j / 4)
  unfold W at hx
  generalize s.getD (j / 4) 0 = x at hx
  have qi : ∀ y : Int, 0 ≤ y ∧ y < 4294967296 → IntKind.i64.wrap (y.tdiv 256) = y / 256 := fun y hy => by rw [Int.tdiv_eq_ediv_of_nonneg hy.1, IntWalk.i64_in _ (by omega)]
  have rm : ∀ y : Int, 0 ≤ y → IntKind.u8.wrap (y.tmod 256) = y % 256 := fun y hy => by rw [Int.tmod_eq_emod_of_nonneg hy, IntWalk.u8_in _ (by omega)]
  have sh : ∀ m : Nat, m ≤ 32 → shrI .u32 x (m : Int) = x / 2 ^ m := fun m hm => by
   unfold shrI
   rw [show IntKind.u32.bits = 32 from rfl, Int.toNat_natCast, Nat.min_eq_left hm, Int.fdiv_eq_ediv_of_nonneg _ (by exact Int.le_of_lt (Int.pow_pos (by omega)))]
  rcases (by omega : j % 4 = 0 ∨ j % 4 = 1 ∨ j % 4 = 2 ∨ j % 4 = 3) with h | h | h | h <;> rw [h]
  ·rw [show IntKind.i64.wrap (8 * ((0 : Nat) : Int)) = ((0 : Nat) : Int) from by decide, sh 0 (by omega), IntKind.wrap_u8]
   simp only [R8.byteAt, rm x hx.1, Int.pow_zero, Int.ediv_one]
  ·rw [show IntKind.i64.wrap (8 * ((1 : Nat) : Int)) = ((8 : Nat) : Int) from by decide, sh 8 (by omega), IntKind.wrap_u8]
   simp only [R8.byteAt, qi x hx]
   rw [rm _ (by omega)]
   rfl
  ·rw [show IntKind.i64.wrap (8 * ((2 : Nat) : Int)) = ((16 : Nat) : Int) from by decide, sh 16 (by omega), IntKind.wrap_u8]
   simp only [R8.byteAt, qi x hx]
   rw [qi _ (by omega), rm _ (by omega), show ((2 : Int) ^ 16) = 65536 from rfl]
   omega
  ·rw [show IntKind.i64.wrap (8 * ((3 : Nat) : Int)) = ((24 : Nat) : Int) from by decide, sh 24 (by omega), IntKind.wrap_u8]
   simp only [R8.byteAt, qi x hx]
   rw [qi (x / 256) (by omega), qi _ (by omega), rm _ (by omega), show ((2 : Int) ^ 24) = 16777216 from rfl]
   omega
 refine ⟨List.map_congr_left fun j _ => key j, fun x hx => ?_⟩
 simp only [D.bytes, List.mem_map] at hx
 obtain ⟨j, _, rfl⟩ := hx
 rw [IntKind.wrap_u8]
 unfold Bt
 omega
theorem hash_Bts (ms : List Int) : Bts (D.hash ms) := by
 intro x hx
 simp only [D.hash, D.bytes, List.mem_map] at hx
 obtain ⟨j, _, rfl⟩ := hx
 rw [IntKind.wrap_u8]
 unfold Bt
 omega
namespace D
def pad (key : List Int) (y : Int) : List Int := (List.range 64).map fun j => bXor .u8 (key.getD j 0) y
def key (k : List Int) : List Int := if k.length ≤ 64 then k else hash k
def hmac (k data : List Int) : List Int := hash (pad (key k) 92 ++ hash (pad (key k) 54 ++ data))
def kt (chain xs : List Int) : List Int := hmac chain xs
def ka (chain xs : List Int) : List Int := hmac (kt chain xs) [1]
def kb (chain xs : List Int) : List Int := hmac (kt chain xs) (ka chain xs ++ [2])
def kc (chain xs : List Int) : List Int := hmac (kt chain xs) (kb chain xs ++ [3])
theorem pad_length (k : List Int) (y : Int) : (pad k y).length = 64 := by simp [pad]
theorem hmac_length (k d : List Int) : (hmac k d).length = 32 := hash_length _
theorem key_length (k : List Int) : (key k).length ≤ 64 := by
 unfold key
 split
 ·assumption
 ·rw [hash_length]; omega
end D
theorem pad_Bts (k : List Int) (y : Int) : Bts (D.pad k y) := by
 intro x hx
 simp only [D.pad, List.mem_map] at hx
 obtain ⟨j, _, rfl⟩ := hx
 unfold bXor
 rw [IntKind.wrap_u8]
 unfold Bt
 omega
end Go.Proofs.YtjomfjihopegmaaGreatDoor.Sx
end
section
open Go
set_option maxRecDepth 100000
namespace Go.Proofs.YtjomfjihopegmaaGreatDoor.Sx
open Go.ChangeShapes Go.WideShapes
section
variable {H : Type} {enc : TypeId × Value → H} {P : Program} {w : World} {held : Bool}
theorem wf_u8 {n : Int} (h : (Lit.int .u8 n).wf = true) : Bt n := by
 have := bounds_u8 h
 exact ⟨this.1, by omega⟩
theorem ro_of_trod {fuel : Nat} {tb t5 : TypeId} {cs : List Value} {x : DataW H × List MemPlace} (ht : P.underlying tb = some (.slice t5)) (h5 : P.underlying t5 = some (.int .u8)) (hc : P.cellsOf t5 = 1)
  (h : DataW.trod enc P w 0 (fun _ => true) held fuel tb cs = some x) : ∃ v xs, cs = [v] ∧ RdOK w .u8 v xs ∧ Bts xs := by
 rcases open_ints ht h5 hc h with ⟨rfl, _⟩ | ⟨a, len, cap, zs, rfl, _, hle, _, hz, _, hcell, hwf⟩
 ·exact ⟨_, [], rfl, .inl ⟨.nil, rfl⟩, fun _ h => by cases h⟩
 ·simp only [if_true] at hz
  refine ⟨_, zs.take len, rfl, ?_, fun z hzm => wf_u8 (hwf z (List.mem_of_mem_take hzm))⟩
  by_cases h0 : cap = 0
  ·subst h0
   have : len = 0 := by omega
   subst this
   exact .inl ⟨⟨_, rfl⟩, by simp⟩
  ·have hc0 := hcell 0 (by omega)
   obtain ⟨b, o, s⟩ := a
   have hs : s = none := by
    have := World.cell?_spot hc0
    cases s with
    | none => rfl
    | some s => simp [Addr.add] at this
   subst hs
   have hlen : (zs.take len).length = len := by rw [List.length_take]; omega
   refine .inr ⟨b, o, cap, by rw [hlen], ?_, by omega, fun j u hj => ?_⟩
   ·rw [add_addr] at hc0
    unfold World.cell? at hc0
    simp only at hc0
    cases hb : w.heap[b]? with
    | none => rw [hb] at hc0; simp at hc0
    | some y => exact (Array.getElem?_eq_some_iff.1 hb).1
   ·rw [List.map_take, List.getElem?_take] at hj
    split at hj
    ·rename_i hjl
     rw [List.getElem?_map] at hj
     obtain ⟨z, hzj, rfl⟩ := Option.map_eq_some_iff.1 hj
     have := hcell j (by omega)
     rw [add_addr] at this
     rw [this, List.getD_eq_getElem?_getD, hzj]
     rfl
    ·cases hj
def intOf : Value → Int
 | .int _ z => z
 | _ => 0
theorem arr_of_trod {fuel : Nat} {ta t5 : TypeId} {n : Nat} {cs : List Value} {x : DataW H × List MemPlace} (ht : P.underlying ta = some (.array n t5)) (h5 : P.underlying t5 = some (.int .u8)) (hc : P.cellsOf t5 = 1) (hca : P.cellsOf ta = n)
  (h : DataW.trod enc P w 0 (fun _ => true) held fuel ta cs = some x) : ∃ xs, xs.length = n ∧ cs = xs.map (Value.int .u8) ∧ Bts xs := by
 obtain ⟨xs, m, _, _, hlen, hn, hel⟩ := DataW.trod_array ht h
 rw [hca] at hlen
 have key : ∀ i, i < n → ∃ z, cs[i]? = some (.int .u8 z) ∧ Bt z := by
  intro i hi
  have h1 := hel i hi
  rw [hc, Nat.mul_one, List.getElem?_eq_getElem (by omega)] at h1
  obtain ⟨z, hz, _, hw⟩ := DataW.trod_int h5 h1
  refine ⟨z, ?_, wf_u8 hw⟩
  have := congrArg (·[0]?) hz
  simpa [List.getElem?_take, List.getElem?_drop] using this
 refine ⟨cs.map intOf, by simp [hlen], ?_, fun z hz => ?_⟩
 ·rw [List.map_map]
  refine List.ext_getElem? fun i => ?_
  rw [List.getElem?_map]
  by_cases hi : i < n
  ·obtain ⟨z, hz, _⟩ := key i hi
   rw [hz]; rfl
  ·rw [List.getElem?_eq_none (by omega)]; rfl
 ·obtain ⟨v, hv, rfl⟩ := List.mem_map.1 hz
  obtain ⟨i, hi⟩ := List.getElem?_of_mem hv
  have hin : i < n := by rw [← hlen]; exact (List.getElem?_eq_some_iff.1 hi).1
  obtain ⟨z, hz, hb⟩ := key i hin
  rw [hi] at hz
  cases hz
  exact hb
end
end Go.Proofs.YtjomfjihopegmaaGreatDoor.Sx
end
section
open Go Go.Proofs.YtjomfjihopegmaaGreatDoor
set_option maxRecDepth 100000
namespace Go.Proofs.YtjomfjihopegmaaGreatDoor.Sx
open Go.ChangeShapes Go.WideShapes
section
variable {H : Type} {enc : TypeId × Value → H} {P : Program} {w : World} {held : Bool}
theorem rk_of_trod {fuel : Nat} {k : IntKind} {tb te : TypeId} {cs : List Value} {x : DataW H × List MemPlace} (ht : P.underlying tb = some (.slice te)) (h5 : P.underlying te = some (.int k)) (hc : P.cellsOf te = 1)
  (h : DataW.trod enc P w 0 (fun _ => true) held fuel tb cs = some x) : ∃ v xs, cs = [v] ∧ RdOK w k v xs ∧ ∀ z ∈ xs, (Lit.int k z).wf = true := by
 rcases open_ints ht h5 hc h with ⟨rfl, _⟩ | ⟨a, len, cap, zs, rfl, _, hle, _, hz, _, hcell, hwf⟩
 ·exact ⟨_, [], rfl, .inl ⟨.nil, rfl⟩, fun _ h => by cases h⟩
 ·simp only [if_true] at hz
  refine ⟨_, zs.take len, rfl, ?_, fun z hzm => hwf z (List.mem_of_mem_take hzm)⟩
  by_cases h0 : cap = 0
  ·subst h0
   have : len = 0 := by omega
   subst this
   exact .inl ⟨⟨_, rfl⟩, by simp⟩
  ·have hc0 := hcell 0 (by omega)
   obtain ⟨b, o, s⟩ := a
   have hs : s = none := by
    have := World.cell?_spot hc0
    cases s with
    | none => rfl
    | some s => simp [Addr.add] at this
   subst hs
   have hlen : (zs.take len).length = len := by rw [List.length_take]; omega
   refine .inr ⟨b, o, cap, by rw [hlen], ?_, by omega, fun j u hj => ?_⟩
   ·rw [add_addr] at hc0
    unfold World.cell? at hc0
    simp only at hc0
    cases hb : w.heap[b]? with
    | none => rw [hb] at hc0; simp at hc0
    | some y => exact (Array.getElem?_eq_some_iff.1 hb).1
   ·rw [List.map_take, List.getElem?_take] at hj
    split at hj
    ·rename_i hjl
     rw [List.getElem?_map] at hj
     obtain ⟨z, hzj, rfl⟩ := Option.map_eq_some_iff.1 hj
     have := hcell j (by omega)
     rw [add_addr] at this
     rw [this, List.getD_eq_getElem?_getD, hzj]
     rfl
    ·cases hj
end
theorem ro_frozen {W : World} {v : Value} {xs : List Int} (h : RdOK W .u8 v xs) : FrozenRd W (fun _ => False) v xs := by
 refine ⟨h, fun n hn => ⟨?_, fun h => h⟩⟩
 rcases h with ⟨⟨a, rfl⟩, rfl⟩ | ⟨b, o, c, rfl, hlt, _, _⟩
 ·simp [roBlk] at hn
 ·have := roBlk_own hn
  cases c with
  | zero => simp [roBlk] at hn
  | succ c => simp [Value.ownBlock] at this; omega
end Go.Proofs.YtjomfjihopegmaaGreatDoor.Sx
end
section
open Go
set_option maxRecDepth 100000
namespace Go.Proofs.YtjomfjihopegmaaGreatDoor.Sx
def tws : List (Nat × Nat) := []
def exA (_ : Nat) : Option Sum := none
def globs : List (Nat × Nat) := [(3, 3), (4, 4), (5, 5)]
theorem mix : Tryz.prog.follows .mixedOrders = true := by kernel_rfl
theorem noNum : Tryz.prog.funcs.toList.all (fun fn => !(fn.name == "runtime.NumGoroutine")) = true := by kernel_rfl
theorem names (f : Nat) (fn : Func) (h : Tryz.prog.funcs[f]? = some fn) : (fn.name == "runtime.NumGoroutine") = false := by
 have hm : fn ∈ Tryz.prog.funcs.toList := by
  have := Array.mem_of_getElem? h
  simpa using this
 have := List.all_eq_true.1 noNum fn hm
 simpa using this
theorem exA_ok (f : Nat) (S : Sum) (h : exA f = some S) (Γ : Env) : SumOK Tryz.prog Γ f S := by cases h
def cmps : List Nat := [192]
theorem ev_cmp : (Tryz.prog.info? 192).all (fun i => i.comparable) = true := by kernel_rfl
theorem ev_held : Tryz.prog.stoodInHeld 192 = false := by kernel_rfl
theorem cmps_ok (t : Nat) (h : cmps.elem t = true) : (∀ i, Tryz.prog.info? t = some i → i.comparable = true) ∧ Tryz.prog.stoodInHeld t = false := by
 have e : t = 192 := by simpa [cmps] using h
 subst e
 refine ⟨fun i hi => ?_, ev_held⟩
 have := ev_cmp
 rw [hi] at this
 simpa using this
theorem progOK (ex : Nat → Option Sum) (hex : ∀ f S, ex f = some S → ∀ Γ : Env, Γ.glob = globs → SumOK Tryz.prog Γ f S) : ProgOK Tryz.prog globs cmps ex tws :=
 ⟨mix, names, cmps_ok, ⟨_, rfl⟩, (fun f g h => by simp [look, tws] at h), hex⟩
noncomputable def env (ex : Nat → Option Sum) (n : Nat) : Env := envN Tryz.prog globs cmps ex tws 400 n
theorem env_ok (ex : Nat → Option Sum) (hex : ∀ f S, ex f = some S → ∀ Γ : Env, Γ.glob = globs → SumOK Tryz.prog Γ f S) (n : Nat) : SumsOK Tryz.prog (env ex n) := envN_ok (progOK ex hex) 400 n
theorem env_ty (ex : Nat → Option Sum) (n : Nat) : TyOK Tryz.prog (env ex n) := TyOK.prog envN_ty.1
end Go.Proofs.YtjomfjihopegmaaGreatDoor.Sx
end
section
open Go
namespace Go.Proofs.YtjomfjihopegmaaGreatDoor.Sx
def allP : List Prop → Prop
 | [] => True
 | p :: r => p ∧ allP r
theorem of_allP : ∀ {l : List Prop}, allP l → ∀ q ∈ l, q
 | [], _, q, hq => by cases hq
 | p :: r, h, q, hq => by
   rcases List.mem_cons.1 hq with rfl | hq
   ·exact h.1
   ·exact of_allP h.2 q hq
theorem denL_map_int (V : Val) (k : IntKind) : ∀ xs : List Int, denL V (xs.map (SV.int false k)) = some (xs.map (Value.int k))
 | [] => rfl
 | x :: xs => by simp [denL, den, denL_map_int V k xs]
theorem den_agg_ai (V : Val) (k : IntKind) (xs : List Int) : den V (.agg (xs.map (SV.int false k))) = den V (.ai k xs) := by
 simp only [den, denL_map_int, Option.map_some]
theorem den_intsV_ai (V : Val) {k : IntKind} {n : Nat} {xs : List Int} (h : xs.length = n) : den V (.agg (intsV k n xs)) = den V (.ai k xs) := by
 simp only [den, intsV_ok h, Option.map_some]
theorem CallOK.words {P : Program} {Γ Γ' : Env} {f : FuncId} {vs vs' : List SV} {T T' : Tab} {lab F : Nat} {e e' : Eff} (h : CallOK P Γ f vs T lab F e) (hg : Γ'.glob = Γ.glob) (hv : ∀ V, denL V vs' = denL V vs) (hT : ∀ l B, T l = some B → T' l = some B)
  (he : ∀ V, den V e.val = den V e'.val) (hn : e'.new = e.new) (hw : e'.wr = e.wr) : CallOK P Γ' f vs' T' lab F e' := by
 intro w0 M V T2 w xs hsub hTab hgl hf hF hx o a K Q hK
 refine h w0 M V T2 w xs (fun l B hl => hsub l B (hT l B hl)) hTab (fun n l hl => hgl n l (by rw [hg]; exact hl)) hf hF ((hv V).symm.trans hx) o a K Q fun V' x w' h1 h2 h3 => hK V' x w' h1 ((he V').symm.trans h2) ?_
 have : upd T2 lab e' = upd T2 lab e := by funext l; simp only [upd, Eff.tab, hn, hw]
 rw [this]
 exact h3
noncomputable def st0 (vs : List SV) (F : Nat) : St := { g := (initG vs 0 .lf).getD .lf, tb := .lf, nx := F, ws := [], ob := [], hs := [] }
def codeOf (f : Func) : Code := f.body.getD .skip
theorem wrap_u32_add (a : Int) (j : Nat) : IntKind.u32.wrap (IntKind.u32.wrap (a + j) + 1) = IntKind.u32.wrap (a + (j + 1 : Nat)) := by
 simp only [IntKind.wrap_u32]; omega
end Go.Proofs.YtjomfjihopegmaaGreatDoor.Sx
end
section
open Go
set_option maxRecDepth 100000
namespace Go.Proofs.YtjomfjihopegmaaGreatDoor.Sx
theorem exA_sums (n : Nat) : SumsOK Tryz.prog (env exA n) := env_ok exA (fun f S h Γ _ => exA_ok f S h Γ) n
def m16 (m : List Int) : List SV := [.int false .u32 (m.getD 0 0), .int false .u32 (m.getD 1 0), .int false .u32 (m.getD 2 0), .int false .u32 (m.getD 3 0), .int false .u32 (m.getD 4 0), .int false .u32 (m.getD 5 0), .int false .u32 (m.getD 6 0), .int false .u32 (m.getD 7 0),
 .int false .u32 (m.getD 8 0), .int false .u32 (m.getD 9 0), .int false .u32 (m.getD 10 0), .int false .u32 (m.getD 11 0), .int false .u32 (m.getD 12 0), .int false .u32 (m.getD 13 0), .int false .u32 (m.getD 14 0), .int false .u32 (m.getD 15 0)]
def id16 : List Nat := [0, 1, 2, 3, 4, 5, 6, 7, 8, 9, 10, 11, 12, 13, 14, 15]
theorem round_run (v m : List Int) (ty : Nat) : interp (env exA 2) Tryz.f157 true [] 400 (.ptr 60 true 0 :: m16 m) (fun l => look l [(60, .own (intsV .u32 16 v) ty)]) 100 100 =
  some { val := .tup [], wr := [(60, .own ((D.roundM (bytesI 16 v) m id16).map (.int false .u32)) ty)] } := by kernel_rfl
end Go.Proofs.YtjomfjihopegmaaGreatDoor.Sx
end
