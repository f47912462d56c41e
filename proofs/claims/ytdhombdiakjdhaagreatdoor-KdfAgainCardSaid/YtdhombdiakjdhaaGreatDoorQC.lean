/- The symbolic executor, thirtieth text: code, step by step, with stops at loops. -/
import Derived.Deep.LoopGhost
import Derived.IntWalk
import Derived.ProofKit
import Derived.OpenShut
import Derived.Test.YtdhombdiakjdhaaGreatDoorProg
import Derived.KernelRfl
import Derived.Test.YtdhombdiakjdhaaGreatDoorQB
section
open Go
namespace Go.Proofs.YtdhombdiakjdhaaGreatDoor.Sx

/-- What is still to be done behind a piece of code. 'loop n c': rounds of c, at most n. -/
inductive Fr where
  | seq (y : Code)
  | blk (id : Nat)
  | loop (n : Nat) (c : Code)
  | scope

/-- A piece of code to be run, or how one has ended. -/
inductive Cf where
  | go (c : Code)
  | at (x : Ex)

def KQ (P : Program) : List Fr → (Exit → Act → World → Prop) → Exit → Act → World → Prop
  | [], Q => Q
  | .seq y :: K, Q => Exit.then (y.wp P (KQ P K Q)) (KQ P K Q)
  | .blk id :: K, Q => Exit.inBlock id (KQ P K Q)
  | .loop n c :: K, Q => Exit.then (Code.rounds P c (KQ P K Q) n) (KQ P K Q)
  | .scope :: K, Q => Exit.noGoto (KQ P K Q)

/-- The number of the first region of a piece of code. -/
def fstR : Code → Nat
  | .region n _ _ => n
  | .seq x _ => fstR x
  | .block _ c => fstR c
  | .loop c => fstR c
  | .scope c => fstR c
  | _ => 0

structure Cfg where
  cf : Cf
  fr : List Fr
  st : St

noncomputable def mstep (Γ : Env) (B : Tab) (F0 N : Nat) (stops : List Nat) (lf : Nat) (rec : Cf → List Fr → St → Option Cfg) (cf : Cf) (K : List Fr) (s : St) : Option Cfg :=
  match cf with
  | .at x => match K with
    | [] => some ⟨.at x, [], s⟩
    | .seq y :: K => match x with
      | .normal => rec (.go y) K s
      | x => rec (.at x) K s
    | .blk id :: K => match x with
      | .exit id' => match Nat.beq id' id with
        | true => rec (.at .normal) K s
        | false => rec (.at (.exit id')) K s
      | x => rec (.at x) K s
    | .loop n c :: K => match x with
      | .normal => match n with
        | m + 1 => rec (.go c) (.loop m c :: K) s
        | 0 => none
      | x => rec (.at x) K s
    | .scope :: K => rec (.at x) K s
  | .go c => match c with
    | .skip => rec (.at .normal) K s
    | .label _ => rec (.at .normal) K s
    | .region _ ops d => match d with
      | true => match drawR Γ B F0 N ops s with
        | some s' => rec (.at .normal) K s'
        | none => none
      | false => match seqR Γ B F0 N ops ops.toList s with
        | some s' => rec (.at .normal) K s'
        | none => none
    | .seq x y => rec (.go x) (.seq y :: K) s
    | .cond c x y => match ev Γ s.g.get c with
      | some (.bool true true) => rec (.go x) K s
      | some (.bool true false) => rec (.go y) K s
      | some (.bool false b) => match s.hs with
        | true :: r => rec (.go x) K { s with ob := (b = true) :: s.ob, hs := r }
        | false :: r => rec (.go y) K { s with ob := (b = false) :: s.ob, hs := r }
        | [] => none
      | _ => none
    | .block id c => rec (.go c) (.blk id :: K) s
    | .loop c => match stops.elem (fstR c) with
      | true => some ⟨.go (.loop c), K, s⟩
      | false => rec (.go c) (.loop lf c :: K) s
    | .exit id => rec (.at (.exit id)) K s
    | .ret => rec (.at .ret) K s
    | .scope c => rec (.go c) (.scope :: K) s
    | _ => none

noncomputable def mrun (Γ : Env) (B : Tab) (F0 N : Nat) (stops : List Nat) (lf n : Nat) : Cf → List Fr → St → Option Cfg :=
  Nat.rec (fun cf K s => some ⟨cf, K, s⟩) (fun _ ih => mstep Γ B F0 N stops lf ih) n

/-- What must be shown of a state. -/
def G (P : Program) (Γ : Env) (w0 : World) (M : Nat → Prop) (B : Tab) (N F0 : Nat) (V0 : Val) (cf : Cf) (K : List Fr) (s : St) (Q : Exit → Act → World → Prop) : Prop :=
  ∀ V a w, Inv P Γ w0 M B N F0 V0 s V a w → match cf with
    | .go c => c.wp P (KQ P K Q) a w
    | .at x => KQ P K Q x.to a w

section
variable {P : Program} {Γ : Env} {w0 : World} {M : Nat → Prop} {B : Tab} {N F0 : Nat} {V0 : Val}

theorem Inv.hints {s : St} {V : Val} {a : Act} {w : World} (hi : Inv P Γ w0 M B N F0 V0 s V a w) (ob : List Prop) (hs : List Bool) : Inv P Γ w0 M B N F0 V0 { s with ob := ob, hs := hs } V a w :=
  ⟨hi.tmp, hi.keys, hi.size, hi.defers, hi.tab, hi.glob, hi.top, hi.le, hi.low, hi.ch, hi.nx, hi.hi⟩

theorem mrun_ob {stops : List Nat} {lf : Nat} : ∀ {n : Nat} {cf : Cf} {K : List Fr} {s : St} {r : Cfg}, mrun Γ B F0 N stops lf n cf K s = some r → ∀ q ∈ s.ob, q ∈ r.st.ob := by
  intro n
  induction n with
  | zero => intro cf K s r h q hq; cases h; exact hq
  | succ n ih =>
    intro cf K s r h q hq
    have h : mstep Γ B F0 N stops lf (mrun Γ B F0 N stops lf n) cf K s = some r := h
    unfold mstep at h
    split at h
    · split at h
      · cases h; exact hq
      · split at h <;> exact ih h q hq
      · split at h
        · split at h <;> exact ih h q hq
        · exact ih h q hq
      · split at h
        · split at h
          · exact ih h q hq
          · cases h
        · exact ih h q hq
      · exact ih h q hq
    · split at h
      · exact ih h q hq
      · exact ih h q hq
      · split at h
        · split at h
          · rename_i s1 h1; exact ih h q (drawR_ob h1 q hq)
          · cases h
        · split at h
          · rename_i s1 h1; exact ih h q (seqR_ob h1 q hq)
          · cases h
      · exact ih h q hq
      · split at h
        · exact ih h q hq
        · exact ih h q hq
        · split at h
          · exact ih h q (List.mem_cons_of_mem _ hq)
          · exact ih h q (List.mem_cons_of_mem _ hq)
          · cases h
        · cases h
      · exact ih h q hq
      · split at h
        · cases h; exact hq
        · exact ih h q hq
      · exact ih h q hq
      · exact ih h q hq
      · exact ih h q hq
      · cases h

/-- A RUN, up to a stop. -/
theorem G.run (hty : TyOK P Γ) (hsum : SumsOK P Γ) (hmix : P.follows .mixedOrders = true) {stops : List Nat} {lf : Nat} {Q : Exit → Act → World → Prop} : ∀ {n : Nat} {cf : Cf} {K : List Fr} {s : St} {r : Cfg},
    mrun Γ B F0 N stops lf n cf K s = some r → (∀ q ∈ r.st.ob, q) → G P Γ w0 M B N F0 V0 r.cf r.fr r.st Q → G P Γ w0 M B N F0 V0 cf K s Q := by
  intro n
  induction n with
  | zero => intro cf K s r h ho hr; cases h; exact hr
  | succ n ih =>
    intro cf K s r h ho hr V a w hi
    have h : mstep Γ B F0 N stops lf (mrun Γ B F0 N stops lf n) cf K s = some r := h
    cases cf with
    | «at» x =>
      cases K with
      | nil => cases h; exact hr V a w hi
      | cons fr K' =>
        cases fr with
        | seq y => cases x <;> exact ih h ho hr V a w hi
        | blk id =>
          cases x with
          | normal => exact ih h ho hr V a w hi
          | ret => exact ih h ho hr V a w hi
          | exit id' =>
            simp only [mstep] at h
            split at h
            · rename_i hb
              have := ih h ho hr V a w hi
              show (if id' = id then KQ P K' Q .normal a w else KQ P K' Q (.exit id') a w)
              rw [if_pos (Nat.eq_of_beq_eq_true hb)]
              exact this
            · rename_i hb
              have := ih h ho hr V a w hi
              show (if id' = id then KQ P K' Q .normal a w else KQ P K' Q (.exit id') a w)
              rw [if_neg (beq_false hb)]
              exact this
        | loop m c =>
          cases x with
          | normal =>
            cases m with
            | zero => cases h
            | succ m' => exact ih h ho hr V a w hi
          | ret => exact ih h ho hr V a w hi
          | exit id' => exact ih h ho hr V a w hi
        | scope =>
          have := ih h ho hr V a w hi
          cases x <;> exact this
    | go c =>
      simp only [mstep] at h
      split at h
      · exact wp_skip (ih h ho hr V a w hi)
      · exact wp_label (ih h ho hr V a w hi)
      · split at h
        · split at h
          · rename_i s1 h1
            exact drawR_ok hty hsum hmix h1 (fun q hq => ho q (mrun_ob h q hq)) hi fun V' a' w' hi' => ih h ho hr V' a' w' hi'
          · cases h
        · split at h
          · rename_i s1 h1
            exact wp_region_list (seqR_ok hty hsum h1 (fun q hq => ho q (mrun_ob h q hq)) hi fun V' a' w' hi' => ih h ho hr V' a' w' hi')
          · cases h
      · exact wp_seq (ih h ho hr V a w hi)
      · split at h
        · rename_i hc
          have hc := ev_ok hi.tmp hi.glob hc
          simp only [den, Option.some.injEq] at hc
          exact wp_cond_true hc.symm (ih h ho hr V a w hi)
        · rename_i hc
          have hc := ev_ok hi.tmp hi.glob hc
          simp only [den, Option.some.injEq] at hc
          exact wp_cond_false hc.symm (ih h ho hr V a w hi)
        · rename_i b hc
          have hc := ev_ok hi.tmp hi.glob hc
          simp only [den, Option.some.injEq] at hc
          split at h
          · have hb : b = true := ho _ (mrun_ob h _ List.mem_cons_self)
            rw [hb] at hc
            exact wp_cond_true hc.symm (ih h ho hr V a w (hi.hints _ _))
          · have hb : b = false := ho _ (mrun_ob h _ List.mem_cons_self)
            rw [hb] at hc
            exact wp_cond_false hc.symm (ih h ho hr V a w (hi.hints _ _))
          · cases h
        · cases h
      · exact wp_block (ih h ho hr V a w hi)
      · split at h
        · cases h; exact hr V a w hi
        · exact wp_loop_rounds (lf + 1) (ih h ho hr V a w hi)
      · exact wp_exit (ih h ho hr V a w hi)
      · exact wp_ret (ih h ho hr V a w hi)
      · exact wp_scope_straight (ih h ho hr V a w hi)
      · cases h

/-- A LOOP: 'S r': the state at its head, with a number that every round lowers. -/
theorem G.loop {L : Code} {K : List Fr} {Q : Exit → Act → World → Prop} (S : Nat → St → Prop) {r0 : Nat} {s0 : St} (h0 : S r0 s0)
    (hround : ∀ r s, S r s → G P Γ w0 M B N F0 V0 (.go L) [] s (Exit.then (fun a w => ∃ r', r' < r ∧ ∃ s', S r' s' ∧ ∃ V, Inv P Γ w0 M B N F0 V0 s' V a w) (KQ P K Q))) :
    G P Γ w0 M B N F0 V0 (.go (.loop L)) K s0 Q := by
  intro V a w hi
  refine wp_loop_ghost (fun r a w => ∃ s, S r s ∧ ∃ V, Inv P Γ w0 M B N F0 V0 s V a w) r0 ⟨s0, h0, V, hi⟩ ?_
  rintro r a w ⟨s, hs, V, hi⟩
  exact hround r s hs V a w hi

/-- A round's end. -/
theorem G.again {K : List Fr} {Q : Exit → Act → World → Prop} {S : Nat → St → Prop} {r : Nat} {s : St}
    (h : ∀ V a w, Inv P Γ w0 M B N F0 V0 s V a w → ∃ r', r' < r ∧ ∃ s', S r' s' ∧ ∃ V, Inv P Γ w0 M B N F0 V0 s' V a w) :
    G P Γ w0 M B N F0 V0 (.at .normal) [] s (Exit.then (fun a w => ∃ r', r' < r ∧ ∃ s', S r' s' ∧ ∃ V, Inv P Γ w0 M B N F0 V0 s' V a w) (KQ P K Q)) :=
  fun V a w hi => h V a w hi

/-- The loop's end. -/
theorem G.leave {K : List Fr} {Q : Exit → Act → World → Prop} {J : Act → World → Prop} {x : Ex} {s : St} (hx : x ≠ .normal) (h : G P Γ w0 M B N F0 V0 (.at x) K s Q) :
    G P Γ w0 M B N F0 V0 (.at x) [] s (Exit.then J (KQ P K Q)) := by
  intro V a w hi
  have := h V a w hi
  cases x with
  | normal => exact (hx rfl).elim
  | exit id => exact this
  | ret => exact this

end
end Go.Proofs.YtdhombdiakjdhaaGreatDoor.Sx
end
section
open Go
namespace Go.Proofs.YtdhombdiakjdhaaGreatDoor.Sx

/-- As 'renB', with slices that are only read. -/
def renBR (ρ : Nat → Option Nat) : SB → Option SB
  | .rov k xs => some (.rov k xs)
  | B => renB ρ B

theorem renBR_blk {ρ : Nat → Option Nat} {V V' : Val} (h : RenOK ρ V V') {w : World} {l l' : Nat} {B B' : SB} (hl : ρ l = some l') (hr : renBR ρ B = some B') (hok : okB V w l B) :
    okB V' w l' B' ∧ (∀ n, B'.blk V' l' = some n → B.blk V l = some n) ∧ (∀ n, B.blk V l = some n → B'.blk V' l' = some n) ∧ B'.owned = B.owned := by
  cases B with
  | rov k xs =>
    simp only [renBR, Option.some.injEq] at hr
    subst hr
    obtain ⟨cs, hc, v, hσ, hh⟩ := hok
    have hσ' := (h l l' hl).2 _ hσ
    exact ⟨⟨cs, hc, v, hσ', hh⟩, fun n hn => by simpa [SB.blk, hσ, hσ'] using hn, fun n hn => by simpa [SB.blk, hσ, hσ'] using hn, rfl⟩
  | _ => exact renB_blk h hl hr hok

noncomputable def renAllR (ρ : Nat → Option Nat) (tb : Tr SB) : List Nat → Option (List SB)
  | [] => some []
  | l :: r => match tb.get l with
    | some B => match renBR ρ B, renAllR ρ tb r with
      | some B, some bs => some (B :: bs)
      | _, _ => none
    | none => none

theorem renAllR_get {ρ : Nat → Option Nat} {tb : Tr SB} : ∀ {ls : List Nat} {bs : List SB}, renAllR ρ tb ls = some bs → bs.length = ls.length ∧ ∀ (i : Nat) (B : SB), bs[i]? = some B → ∃ (l : Nat) (C : SB), ls[i]? = some l ∧ tb.get l = some C ∧ renBR ρ C = some B
  | [], bs, h => by simp only [renAllR, Option.some.injEq] at h; subst h; simp
  | l :: r, bs, h => by
    simp only [renAllR] at h
    split at h
    · rename_i C hC
      split at h
      · rename_i B' bs' hB hbs
        cases h
        obtain ⟨h1, h2⟩ := renAllR_get hbs
        refine ⟨by simp [h1], fun i B hi => ?_⟩
        cases i with
        | zero => simp only [List.getElem?_cons_zero, Option.some.injEq] at hi; subst hi; exact ⟨l, C, rfl, hC, hB⟩
        | succ i => simpa using h2 i B (by simpa using hi)
      · cases h
    · cases h

noncomputable def normG (ρ : Nat → Option Nat) (g : Tr SV) : List Nat → Option (Tr SV)
  | [] => some .lf
  | t :: r => match normG ρ g r, g.get t with
    | some g', some v => match ren ρ v with
      | some v => Tr.put v 64 g' t
      | none => none
    | _, _ => none

noncomputable def putL : List (Nat × SB) → Option (Tr SB)
  | [] => some .lf
  | (l, B) :: r => match putL r with
    | some t => Tr.put B 64 t l
    | none => none

/-- A state with the temporaries 'keep' and the blocks 'labs' alone, by new names. -/
noncomputable def normS (F0 : Nat) (keep labs : List Nat) (hs : List Bool) (s : St) : Option St :=
  match normG (nm F0 F0 labs) s.g keep, renAllR (nm F0 F0 labs) s.tb s.ws, renAllR (nm F0 F0 labs) s.tb labs with
  | some g, some wr, some nw => match putL (zipWr s.ws wr ++ newL F0 nw), renL (nm F0 F0 labs) s.df with
    | some tb, some df => match noDup labs && (labs.all (fun l => Nat.ble F0 l) && s.ws.all (fun l => Nat.blt l F0)) with
      | true => some { g := g, tb := tb, nx := F0 + labs.length, ws := s.ws, ob := [], df := df, hs := hs }
      | false => none
    | _, _ => none
  | _, _, _ => none

theorem normG_get {ρ : Nat → Option Nat} {g : Tr SV} : ∀ {ks : List Nat} {g' : Tr SV}, normG ρ g ks = some g' → ∀ t v, g'.get t = some v → ∃ u, g.get t = some u ∧ ren ρ u = some v
  | [], g', h, t, v, hv => by simp only [normG, Option.some.injEq] at h; subst h; rw [Tr.get_lf] at hv; cases hv
  | k :: r, g', h, t, v, hv => by
    simp only [normG] at h
    split at h
    case h_2 => cases h
    rename_i g1 u h1 hu
    split at h
    case h_2 => cases h
    rename_i v1 hr
    rw [Tr.get_put _ _ _ _ _ h t] at hv
    split at hv
    · rename_i e; subst e; cases hv; exact ⟨u, hu, hr⟩
    · exact normG_get h1 t v hv

theorem putL_get : ∀ {r : List (Nat × SB)} {t : Tr SB}, putL r = some t → ∀ l, t.get l = look l r
  | [], t, h, l => by simp only [putL, Option.some.injEq] at h; subst h; rfl
  | (k, B) :: r, t, h, l => by
    simp only [putL] at h
    split at h
    case h_2 => cases h
    rename_i t1 h1
    rw [Tr.get_put _ _ _ _ _ h l]
    split
    · rename_i e; subst e; rw [look_cons_eq]
    · rename_i e; rw [look_cons_ne (fun q => e q.symm)]; exact putL_get h1 l

/-- What holds where a call begins. -/
structure Base (Γ : Env) (B : Tab) (F0 : Nat) (V0 : Val) : Prop where
  top : V0.top F0
  glob : GlobOK Γ V0
  cut : ∀ l, F0 ≤ l → B l = none
  cells : ∀ l b, B l = some b → ∃ cs, b.cells V0 = some cs

theorem nm_lt {F lab l : Nat} {ls : List Nat} (h : l < F) : nm F lab ls l = some l := by
  unfold nm
  have : Nat.blt l F = true := by simpa [Nat.blt_eq] using h
  rw [this]

theorem nm_ge {F lab l i : Nat} {ls : List Nat} (h : F ≤ l) (hd : noDup ls = true) (hi : ls[i]? = some l) : nm F lab ls l = some (lab + i) := by
  unfold nm
  have hb : Nat.blt l F = false := by
    cases hb : Nat.blt l F with
    | false => rfl
    | true => have : l < F := by simpa [Nat.blt_eq] using hb
              omega
  rw [hb]
  simp only
  cases hix : ixOf l ls 0 with
  | none =>
    exfalso
    have : ∀ (ms : List Nat) (i : Nat), ixOf l ms i = none → l ∉ ms := by
      intro ms
      induction ms with
      | nil => intro i _; simp
      | cons a r ih =>
        intro i hi
        simp only [ixOf] at hi
        split at hi
        · cases hi
        · rename_i hb
          have := beq_false hb
          simp only [List.mem_cons, not_or]
          exact ⟨fun q => this q.symm, ih _ hi⟩
    exact this ls 0 hix (List.mem_of_getElem? hi)
  | some j =>
    simp only
    obtain ⟨_, h6⟩ := ixOf_ok hix
    have := noDup_ok hd hi (by simpa using h6)
    congr 1
    omega

section
variable {P : Program} {Γ : Env} {w0 : World} {M : Nat → Prop} {B : Tab} {N F0 : Nat} {V0 : Val}

theorem Inv.norm (hb : Base Γ B F0 V0) {keep labs : List Nat} {hs : List Bool} {s s' : St} (h : normS F0 keep labs hs s = some s') {V : Val} {a : Act} {w : World} (hi : Inv P Γ w0 M B N F0 V0 s V a w) :
    ∃ V', Inv P Γ w0 M B N F0 V0 s' V' a w := by
  unfold normS at h
  split at h
  case h_2 => cases h
  rename_i g wr nw hg hwr hnw
  split at h
  case h_2 => cases h
  rename_i tb df htb hdf
  split at h
  case h_2 => cases h
  rename_i hck
  cases h
  simp only [Bool.and_eq_true] at hck
  obtain ⟨hc2, hc3, hc4⟩ := hck
  have hlsF : ∀ (i k : Nat), labs[i]? = some k → F0 ≤ k := fun i k hk => Nat.le_of_ble_eq_true (List.all_eq_true.1 hc3 k (List.mem_of_getElem? hk))
  have hwsF : ∀ k, k ∈ s.ws → k < F0 := fun k hk => by have := List.all_eq_true.1 hc4 k hk; simpa [Nat.blt_eq] using this
  obtain ⟨hnl, hng⟩ := renAllR_get hnw
  obtain ⟨hwl, hwg⟩ := renAllR_get hwr
  have hget := putL_get htb
  obtain ⟨V', hV'⟩ : ∃ V' : Val, V' = ⟨fun l => if l < F0 then V.β l else (labs[l - F0]?).bind V.β, fun l => if l < F0 then V.σ l else (labs[l - F0]?).bind V.σ⟩ := ⟨_, rfl⟩
  have vlow : ∀ l, l < F0 → V'.β l = V.β l ∧ V'.σ l = V.σ l := fun l hl => by subst hV'; exact ⟨if_pos hl, if_pos hl⟩
  have vhi : ∀ i, V'.β (F0 + i) = (labs[i]?).bind V.β ∧ V'.σ (F0 + i) = (labs[i]?).bind V.σ := fun i => by
    subst hV'
    refine ⟨(if_neg (by omega)).trans ?_, (if_neg (by omega)).trans ?_⟩ <;> rw [show F0 + i - F0 = i from by omega]
  have vhi' : ∀ l, F0 ≤ l → V'.β l = (labs[l - F0]?).bind V.β ∧ V'.σ l = (labs[l - F0]?).bind V.σ := fun l hl => by
    have := vhi (l - F0); rwa [show F0 + (l - F0) = l from by omega] at this
  have hle : V0.le V' := by
    refine ⟨fun l p hp => ?_, fun l p hp => ?_⟩
    · by_cases hl : l < F0
      · rw [(vlow l hl).1, (hi.low l hl).1]; exact hp
      · rw [(hb.top l (by omega)).1] at hp; cases hp
    · by_cases hl : l < F0
      · rw [(vlow l hl).2, (hi.low l hl).2]; exact hp
      · rw [(hb.top l (by omega)).2] at hp; cases hp
  have hren : RenOK (nm F0 F0 labs) V V' := by
    intro l l' hl
    by_cases hlt : l < F0
    · rw [nm_lt hlt] at hl
      cases hl
      rw [(vlow l hlt).1, (vlow l hlt).2]
      exact ⟨fun p hp => hp, fun p hp => hp⟩
    · unfold nm at hl
      split at hl
      · rename_i hbl
        exact absurd (by simpa [Nat.blt_eq] using hbl) hlt
      · split at hl
        · rename_i i hix
          cases hl
          obtain ⟨_, h2⟩ := ixOf_ok hix
          have h2 : labs[i]? = some l := by simpa using h2
          rw [(vhi i).1, (vhi i).2, h2]
          exact ⟨fun p hp => hp, fun p hp => hp⟩
        · cases hl
  -- where a label comes from
  have src : ∀ l b, St.T B { g := g, tb := tb, nx := F0 + labs.length, ws := s.ws, ob := [], df := df, hs := hs } l = some b →
      ∃ k C, s.T B k = some C ∧ nm F0 F0 labs k = some l ∧ okB V' w l b ∧ (∀ n, b.blk V' l = some n → C.blk V k = some n) ∧ b.owned = C.owned := by
    intro l b hl
    simp only [St.T, hget l] at hl
    rw [look_append] at hl
    cases hw : look l (zipWr s.ws wr) with
    | some b1 =>
      rw [hw] at hl
      cases hl
      obtain ⟨i, h1, h2⟩ := look_zipWr hw
      obtain ⟨k, C, h3, h4, h5⟩ := hwg i _ h2
      rw [h1] at h3; cases h3
      have hTf : s.T B l = some C := by simp only [St.T, h4]
      have hnm : nm F0 F0 labs l = some l := nm_lt (hwsF l (List.mem_of_getElem? h1))
      obtain ⟨r1, r2, r3, r4⟩ := renBR_blk hren hnm h5 (hi.tab.ok l C hTf)
      exact ⟨l, C, hTf, hnm, r1, r2, r4⟩
    | none =>
      rw [hw] at hl
      have hnot := look_zipWr_none hwl hw
      simp only at hl
      rw [look_newL] at hl
      by_cases hr : F0 ≤ l
      · rw [if_pos hr] at hl
        cases hn : nw[l - F0]? with
        | some b1 =>
          rw [hn] at hl
          cases hl
          obtain ⟨k, C, h3, h4, h5⟩ := hng (l - F0) _ hn
          have hTf : s.T B k = some C := by simp only [St.T, h4]
          have hnm : nm F0 F0 labs k = some l := by
            rw [nm_ge (hlsF _ _ h3) hc2 h3]
            congr 1
            omega
          obtain ⟨r1, r2, r3, r4⟩ := renBR_blk hren hnm h5 (hi.tab.ok k C hTf)
          exact ⟨k, C, hTf, hnm, r1, r2, r4⟩
        | none =>
          rw [hn] at hl
          simp only at hl
          rw [hb.cut l hr] at hl
          cases hl
      · rw [if_neg hr] at hl
        simp only at hl
        have hlt : l < F0 := by omega
        have hTf : s.T B l = some b := by simp only [St.T, hi.ch l hlt hnot, hl]
        obtain ⟨cs, c1, c2⟩ := hi.tab.ok l b hTf
        obtain ⟨cs0, c3⟩ := hb.cells l b hl
        have := SB.cells_mono hi.le c3
        rw [c1] at this
        cases this
        have e1 := (vlow l hlt).1
        have e2 := (vlow l hlt).2
        refine ⟨l, b, hTf, nm_lt hlt, ⟨cs, SB.cells_mono hle c3, ?_⟩, fun n hn => ?_, rfl⟩
        · cases b with
          | own cells ty => obtain ⟨b, hb, hh⟩ := c2; exact ⟨b, e1.trans hb, hh⟩
          | ints k xs ty => obtain ⟨b, hb, hh⟩ := c2; exact ⟨b, e1.trans hb, hh⟩
          | vals vs ty => obtain ⟨b, hb, hh⟩ := c2; exact ⟨b, e1.trans hb, hh⟩
          | roc cells => obtain ⟨b, o, hb, hh⟩ := c2; exact ⟨b, o, e1.trans hb, hh⟩
          | roi k xs => obtain ⟨b, o, hb, hh⟩ := c2; exact ⟨b, o, e1.trans hb, hh⟩
          | rowi k xs ty => obtain ⟨v, hv, hh⟩ := c2; exact ⟨v, e2.trans hv, hh⟩
          | rowx sz n ty => obtain ⟨v, us, hv, hh⟩ := c2; exact ⟨v, us, e2.trans hv, hh⟩
          | row sz cells ty => obtain ⟨b, cap, cur, hb, hσ, r⟩ := c2; exact ⟨b, cap, cur, e1.trans hb, e2.trans hσ, r⟩
          | rov k xs => obtain ⟨v, hv, hh⟩ := c2; exact ⟨v, e2.trans hv, hh⟩
          | gone => trivial
        · cases b <;> simp only [SB.blk, e1, e2] at hn ⊢ <;> exact hn
  refine ⟨V', fun t v hv => ?_, fun d v hv => ?_, hi.size, ?_, ⟨fun l b hl => ?_, fun l b l' b' n hne hl hl' ho hbk hbk' => ?_, fun l b n hl ho hbk => ?_, hi.tab.frame⟩, fun n l hl => hle.1 _ _ (hb.glob n l hl), fun l hl => ?_, hle, fun l hl => ?_, fun l hl hn => ?_, ?_, fun l hl => ?_⟩
  · obtain ⟨u, h1, h2⟩ := normG_get hg t v hv
    exact ren_ok hren h2 (hi.tmp t u h1)
  · obtain ⟨u, h1, _⟩ := normG_get hg d v hv
    exact hi.keys d u h1
  · obtain ⟨xs, h1, h2⟩ := hi.defers
    exact ⟨xs, renL_ok hren hdf h1, h2⟩
  · obtain ⟨_, _, _, _, h, _⟩ := src l b hl; exact h
  · obtain ⟨k, C, h1, h2, _, h4, h5⟩ := src l b hl
    obtain ⟨k', C', h1', h2', _, h4', _⟩ := src l' b' hl'
    have hkk : k ≠ k' := fun e => by subst e; rw [h2] at h2'; cases h2'; exact hne rfl
    exact hi.tab.dist k C k' C' n hkk h1 h1' (h5 ▸ ho) (h4 n hbk) (h4' n hbk')
  · obtain ⟨k, C, h1, h2, _, h4, h5⟩ := src l b hl
    exact hi.tab.perm k C n h1 (h5 ▸ ho) (h4 n hbk)
  · have hl : F0 + labs.length ≤ l := hl
    have := vhi' l (by omega)
    rw [this.1, this.2, List.getElem?_eq_none (by omega)]
    exact ⟨rfl, rfl⟩
  · rw [(vlow l hl).1, (vlow l hl).2]; exact hi.low l hl
  · show tb.get l = none
    rw [hget l, look_append]
    cases hw : look l (zipWr s.ws wr) with
    | some b =>
      obtain ⟨i, h1, _⟩ := look_zipWr hw
      exact absurd (List.mem_of_getElem? h1) hn
    | none =>
      simp only
      rw [look_newL, if_neg (by omega)]
  · exact Nat.le_add_right _ _
  · have hl : F0 + labs.length ≤ l := hl
    have h1 : tb.get l = none := by
      rw [hget l, look_append]
      cases hw : look l (zipWr s.ws wr) with
      | some b =>
        obtain ⟨i, h1, _⟩ := look_zipWr hw
        have := hwsF l (List.mem_of_getElem? h1)
        omega
      | none =>
        simp only
        rw [look_newL, if_pos (by omega)]
        exact List.getElem?_eq_none (by rw [hnl]; omega)
    show (match tb.get l with | some b => some b | none => B l) = none
    rw [h1]
    exact hb.cut l (by omega)

theorem G.norm (hb : Base Γ B F0 V0) {keep labs : List Nat} {hs : List Bool} {s s' : St} (h : normS F0 keep labs hs s = some s') {cf : Cf} {K : List Fr} {Q : Exit → Act → World → Prop}
    (hG : G P Γ w0 M B N F0 V0 cf K s' Q) : G P Γ w0 M B N F0 V0 cf K s Q := by
  intro V a w hi
  obtain ⟨V', hi'⟩ := hi.norm hb h
  exact hG V' a w hi'

end
end Go.Proofs.YtdhombdiakjdhaaGreatDoor.Sx
end
section
open Go
namespace Go.Proofs.YtdhombdiakjdhaaGreatDoor.Sx

/-- What a body's end says of the call. -/
noncomputable def endS (Γ : Env) (T : Tab) (lab F : Nat) (fn : Func) (x : Ex) (s : St) : Option Eff := match x with
  | .exit _ => none
  | _ => match runDf Γ (cutT F T) F fn.ntmps s.df s with
    | some s => match resL Γ s.g.get (s.T (cutT F T)) fn.results.toList with
      | some (ob, rs) => finish F lab (s.owe ob) (res rs)
      | none => none
    | none => none

theorem endS_ok {P : Program} {Γ : Env} (hty : TyOK P Γ) (hsum : SumsOK P Γ) {fn : Func} {T T2 : Tab} {lab F : Nat} {e e' : Eff} {w0 w : World} {M : Nat → Prop} {V : Val} {x : Ex} {s : St}
    (hsub : ∀ l B, T l = some B → T2 l = some B) (hT : TabOK w0 M V T2 w) (hf : V.fresh lab) (h : endS Γ T lab F fn x s = some e') (ho : ∀ q ∈ e'.obl, q) (hev : e'.val = e.val) (hen : e'.new = e.new) (hew : e'.wr = e.wr)
    {R : Ending → World → Prop} (hR : ∀ V' x w', V.ext lab V' → den V' e.val = some x → TabOK w0 M V' (upd T2 lab e) w' → R (.returned x) w') :
    G P Γ w (ownedBy V (cutT F T)) (cutT F T) fn.ntmps F V (.at x) [] s (bodyPostD P fn R) := by
  intro V' a' w' hi'
  have main : ∀ y : Ex, y.to = .normal ∨ y.to = .ret → (match runDf Γ (cutT F T) F fn.ntmps s.df s with
      | some s => match resL Γ s.g.get (s.T (cutT F T)) fn.results.toList with
        | some (ob, rs) => finish F lab (s.owe ob) (res rs)
        | none => none
      | none => none) = some e' → bodyPostD P fn R y.to a' w' := by
    intro y hy h
    split at h
    case h_2 => cases h
    rename_i s2 h2
    split at h
    case h_2 => cases h
    rename_i obr rs hrs
    have hfo : e'.obl = obr ++ s2.ob := by
      unfold finish at h
      split at h
      · cases h
      · simp only at h
        split at h
        · cases h; rfl
        · cases h
    obtain ⟨ys, hy1, hy2⟩ := hi'.defers
    have hl : Leaves P fn a'.tmps R a'.defers .returning w' := by
      rw [hy2]
      refine runDf_ok hsum h2 (fun q hq => ho q (hfo ▸ List.mem_append_right _ hq)) hi' rfl hy1 fun V3 a3 w3 hi3 ha3 => ?_
      obtain ⟨v, hv1, hv2⟩ := results_ok (P := P) (fn := fn) hty hi3.tmp hi3.tab hrs (fun q hq => ho q (hfo ▸ List.mem_append_left _ hq))
      obtain ⟨_, V2, k1, k2, k3⟩ := finish_ok hT hsub hf (hi3.owe obr) hv1 h
      refine ⟨v, ha3 ▸ hv2, hR V2 v w3 k1 (hev ▸ k2) ?_⟩
      have : upd T2 lab e = upd T2 lab e' := by
        funext l; simp only [upd, Eff.tab, hen, hew]
      rw [this]
      exact k3
    rcases hy with q | q <;> (rw [q]; exact hl)
  cases x with
  | exit id => cases h
  | normal => exact main .normal (.inl rfl) h
  | ret => exact main .ret (.inr rfl) h

/-- A CALL, by what is shown of the function's body. -/
theorem call_G {P : Program} {Γ : Env} (hty : TyOK P Γ) (hsum : SumsOK P Γ) {f : FuncId} {fn : Func} {c : Code} (hfn : P.funcs[f]? = some fn) (hne : (fn.name == "runtime.NumGoroutine") = false) (hc : fn.body = some c)
    {vs : List SV} {T : Tab} {lab F : Nat} {e : Eff} (hn : vs.length ≤ fn.ntmps) {g : Tr SV} (hg0 : initG vs 0 .lf = some g) (hs : List Bool)
    (H : ∀ (w0 : World) (M : Nat → Prop) (V0 : Val) (Q : Exit → Act → World → Prop), Base Γ (cutT F T) F V0 →
      (∀ x s e', endS Γ T lab F fn x s = some e' → (∀ q ∈ e'.obl, q) → e'.val = e.val → e'.new = e.new → e'.wr = e.wr → G P Γ w0 M (cutT F T) fn.ntmps F V0 (.at x) [] s Q) →
      G P Γ w0 M (cutT F T) fn.ntmps F V0 (.go c) [] { g := g, tb := .lf, nx := F, ws := [], ob := [], hs := hs } Q) : CallOK P Γ f vs T lab F e := by
  intro w0 M V T2 w xs hsub hT hg hf hF hx o a K Q hK
  have hlen := denL_length hx
  have hinit := initG_get hg0
  have hxs : xs.length = vs.length := hlen
  have hbase : Base Γ (cutT F T) F V := by
    refine ⟨hF, hg, fun l hl => ?_, fun l b hl => ?_⟩
    · cases hc : cutT F T l with
      | none => rfl
      | some b => have := (cutT_sub hc).1; omega
    · obtain ⟨cs, h1, _⟩ := hT.ok l b (hsub l b (cutT_sub hl).2)
      exact ⟨cs, h1⟩
  have hi0 : Inv P Γ w (ownedBy V (cutT F T)) (cutT F T) fn.ntmps F V { g := g, tb := .lf, nx := F, ws := [], ob := [], hs := hs } V { tmps := xs.toArray ++ Array.replicate (fn.ntmps - xs.toArray.size) undef, defers := [] } w := by
    refine ⟨fun t v hv => ?_, fun d v hv => ?_, ?_, ⟨[], rfl, rfl⟩, ?_, hg, hF, V.le_refl, fun l _ => ⟨rfl, rfl⟩, fun l _ _ => rfl, Nat.le_refl _, fun l hl => ?_⟩
    · have := hinit t
      simp only at hv
      rw [hv] at this
      split at this
      · rename_i hr
        obtain ⟨y, h1, h2⟩ := denL_get hx t v (by simpa using this.symm)
        rw [h2]
        have hlt : t < xs.length := by omega
        have hget : xs[t]? = some y := h1
        simp [Act.eval, Array.getD_eq_getD_getElem?, Array.getElem?_append, hlt] at hget ⊢
        exact hget.symm
      · cases this
    · have := hinit d
      simp only at hv
      rw [hv] at this
      split at this
      · omega
      · cases this
    · simp
      omega
    · have hp := TabOK.part hT (T := cutT F T) (fun l B hl => hsub l B (cutT_sub hl).2)
      have : St.T (cutT F T) { g := g, tb := .lf, nx := F, ws := [], ob := [], hs := hs } = cutT F T := by funext l; rfl
      rw [this]
      exact hp
    · show (match Tr.get .lf l with | some b => some b | none => cutT F T l) = none
      simp only [Tr.get_lf]
      exact hbase.cut l hl
  rw [callFunc_enter hfn hc hne, Oper.upon_enter]
  refine calls_of_wp_defers hfn hc ?_
  exact H w (ownedBy V (cutT F T)) V (bodyPostD P fn _) hbase (fun x s e' h ho h1 h2 h3 => endS_ok hty hsum hsub hT hf h ho h1 h2 h3 (R := fun
      | .returned v, w'' => K (a.put o.dst v) w''
      | .panicked chain, w'' => Q (.panic chain) a w''
      | .outgrown, _ => LetsOut Q) (fun V' x w' h1 h2 h3 => hK V' x w' h1 h2 h3)) V _ w hi0

end Go.Proofs.YtdhombdiakjdhaaGreatDoor.Sx
end
section
open Go
namespace Go.Proofs.YtdhombdiakjdhaaGreatDoor.Sx

/-- Two integers: nothing is owed where both are literal and alike. -/
def eqI (s s' : Bool) (a b : Int) : List Prop := match s && s' with
  | true => match beqI a b with
    | true => []
    | false => [a = b]
  | false => [a = b]
theorem eqI_ok {s s' : Bool} {a b : Int} (h : ∀ q ∈ eqI s s' a b, q) : a = b := by
  unfold eqI at h
  split at h
  · split at h
    · rename_i hb; exact beqI_ok hb
    · exact h _ (by simp)
  · exact h _ (by simp)
def eqN (s s' : Bool) (a b : Nat) : List Prop := match s && s' with
  | true => match Nat.beq a b with
    | true => []
    | false => [a = b]
  | false => [a = b]
theorem eqN_ok {s s' : Bool} {a b : Nat} (h : ∀ q ∈ eqN s s' a b, q) : a = b := by
  unfold eqN at h
  split at h
  · split at h
    · rename_i hb; exact Nat.eq_of_beq_eq_true hb
    · exact h _ (by simp)
  · exact h _ (by simp)

/-- Integers and truths, all literal. -/
def litL : List SV → Bool
  | [] => true
  | .int true _ _ :: r => litL r
  | .bool true _ :: r => litL r
  | _ => false
theorem litL_den {V V' : Val} : ∀ {cs : List SV}, litL cs = true → denL V cs = denL V' cs
  | [], _ => rfl
  | v :: r, h => by
    unfold litL at h
    split at h
    · rename_i e; cases e
    · rename_i e; cases e; simp only [denL, den, litL_den (V := V) (V' := V') h]
    · rename_i e; cases e; simp only [denL, den, litL_den (V := V) (V' := V') h]
    · cases h

/-- Two rows of cells: literal ones are held against each other; rows of integers are to be one; else 'els'. -/
def eqCs (cs ds : List SV) (els : Option (List Prop)) : Option (List Prop) := match litL cs && litL ds with
  | true => match beqL cs ds with
    | true => some []
    | false => none
  | false => match intsA cs, intsA ds with
    | some (k, ns), some (k', ms) => match beqK k k' with
      | true => some [ns = ms]
      | false => none
    | _, _ => els

theorem eqCs_ok {cs ds : List SV} {els : Option (List Prop)} {ps : List Prop} (h : eqCs cs ds els = some ps) (hp : ∀ q ∈ ps, q) : (∀ V V', denL V' ds = denL V cs) ∨ els = some ps := by
  unfold eqCs at h
  split at h
  · rename_i hl
    simp only [Bool.and_eq_true] at hl
    split at h
    · rename_i hb
      left
      intro V V'
      rw [← beqL_ok hb]
      exact litL_den hl.1
    · cases h
  · split at h
    · rename_i h1 h2
      split at h
      · rename_i hk
        cases h
        have e := hp _ List.mem_cons_self
        have hk : _ = _ := of_decide_eq_true hk
        subst e hk
        left
        intro V V'
        rw [intsA_ok h1, intsA_ok h2]
      · cases h
    · exact .inr h

mutual
/-- What is owed, if a value is to be said in other words. -/
def recV : SV → SV → Option (List Prop)
  | .int s k n, .int s' k' n' => match beqK k k' with
    | true => some (eqI s s' n n')
    | false => none
  | .bool s b, .bool s' b' => match s && s' with
    | true => match beqB b b' with
      | true => some []
      | false => none
    | false => some [b = b']
  | .agg vs, .agg us => eqCs vs us (recL vs us)
  | .ai k xs, .ai k' ys => match beqK k k' with
    | true => some [xs = ys]
    | false => none
  | .agg vs, .ai k ys => (intsK k vs).map fun ns => [ns = ys]
  | .ai k xs, .agg us => (intsK k us).map fun ns => [xs = ns]
  | .tup vs, .tup us => recL vs us
  | .ptr l s o, .ptr l' s' o' => match Nat.beq l l' with
    | true => some (eqN s s' o o')
    | false => none
  | .slc l s o n c, .slc l' s' o' n' c' => match Nat.beq l l' with
    | true => some (eqN s s' o o' ++ (eqN s s' n n' ++ eqN s s' c c'))
    | false => none
  | .slcR l o n lo, .slcR l' o' n' lo' => match Nat.beq l l' && (Nat.beq o o' && Nat.beq lo lo') with
    | true => some (eqN false false n n')
    | false => none
  | .buf l, .buf l' => match Nat.beq l l' with
    | true => some []
    | false => none
  | .slk l n c z j le, .slk l' n' c' z' j' le' => match Nat.beq l l' && (Nat.beq z z' && Nat.beq le le') with
    | true => some [n = n' ∧ c = c' ∧ j = j']
    | false => none
  | .bptr l o, .bptr l' o' => match Nat.beq l l' with
    | true => some (eqN false false o o')
    | false => none
  | .bslc l lo hi, .bslc l' lo' hi' => match Nat.beq l l' with
    | true => some [lo = lo' ∧ hi = hi']
    | false => none
  | .ros l n, .ros l' n' => match Nat.beq l l' with
    | true => some (eqN false false n n')
    | false => none
  | .ifc t v, .ifc t' v' => match Nat.beq t t' with
    | true => recV v v'
    | false => none
  | .fn (.func f) xs ys, .fn (.func g) us vs => match Nat.beq f g with
    | true => match recL xs us, recL ys vs with
      | some a, some b => some (a ++ b)
      | _, _ => none
    | false => none
  | .raw (.slice none 0 0), .raw (.slice none 0 0) => some []
  | .raw (.pointer none), .raw (.pointer none) => some []
  | .raw .nilIface, .raw .nilIface => some []
  | .raw .nilFunc, .raw .nilFunc => some []
  | .raw v, .raw v' => some [v = v']
  | _, _ => none
def recL : List SV → List SV → Option (List Prop)
  | [], [] => some []
  | v :: r, u :: t => match recV v u, recL r t with
    | some a, some b => some (a ++ b)
    | _, _ => none
  | _, _ => none
end

theorem mem_l {a b : List Prop} (h : ∀ q ∈ a ++ b, q) : ∀ q ∈ a, q := fun q hq => h q (List.mem_append_left _ hq)
theorem mem_r {a b : List Prop} (h : ∀ q ∈ a ++ b, q) : ∀ q ∈ b, q := fun q hq => h q (List.mem_append_right _ hq)

mutual
theorem recV_ok {V : Val} : ∀ {v u : SV} {ps : List Prop}, recV v u = some ps → (∀ q ∈ ps, q) → den V u = den V v
  | .int s k n, u, ps, h, hp => by
    cases u <;> simp only [recV] at h <;> first | (cases h; done) | skip
    split at h
    · rename_i hk
      cases h
      rw [eqI_ok hp]
      have : k = _ := of_decide_eq_true hk
      rw [this]; rfl
    · cases h
  | .bool s b, u, ps, h, hp => by
    cases u <;> simp only [recV] at h <;> first | (cases h; done) | skip
    split at h
    · split at h
      · rename_i hb; cases h; rw [beqB_ok hb]; rfl
      · cases h
    · cases h; have := hp _ List.mem_cons_self; subst this; rfl
  | .agg vs, u, ps, h, hp => by
    cases u <;> simp only [recV] at h <;> first | (cases h; done) | skip
    case agg =>
      rcases eqCs_ok h hp with e | e
      · simp only [den, e V V]
      · simp only [den, recL_ok e hp]
    case ai =>
      simp only [Option.map_eq_some_iff] at h
      obtain ⟨ns, hn, rfl⟩ := h
      have e := hp _ List.mem_cons_self
      subst e
      simp only [den, intsK_ok hn, Option.map_some]
  | .ai k xs, u, ps, h, hp => by
    cases u <;> simp only [recV] at h <;> first | (cases h; done) | skip
    case agg =>
      simp only [Option.map_eq_some_iff] at h
      obtain ⟨ns, hn, rfl⟩ := h
      have e := hp _ List.mem_cons_self
      subst e
      simp only [den, intsK_ok hn, Option.map_some]
    case ai =>
      split at h
      · rename_i hk
        cases h
        have e := hp _ List.mem_cons_self
        have hk : _ = _ := of_decide_eq_true hk
        subst e hk
        rfl
      · cases h
  | .tup vs, u, ps, h, hp => by
    cases u <;> simp only [recV] at h <;> first | (cases h; done) | skip
    simp only [den, recL_ok h hp]
  | .ptr l s o, u, ps, h, hp => by
    cases u <;> simp only [recV] at h <;> first | (cases h; done) | skip
    split at h
    · rename_i hl; cases h; simp only [den, eqN_ok hp, Nat.eq_of_beq_eq_true hl]
    · cases h
  | .slc l s o n c, u, ps, h, hp => by
    cases u <;> simp only [recV] at h <;> first | (cases h; done) | skip
    split at h
    · rename_i hl; cases h; simp only [den, eqN_ok (mem_l hp), eqN_ok (mem_l (mem_r hp)), eqN_ok (mem_r (mem_r hp)), Nat.eq_of_beq_eq_true hl]
    · cases h
  | .slcR l o n c, u, ps, h, hp => by
    cases u <;> simp only [recV] at h <;> first | (cases h; done) | skip
    split at h
    · rename_i hl
      simp only [Bool.and_eq_true] at hl
      obtain ⟨h1, h2, h4⟩ := hl
      cases h
      simp only [den, Nat.eq_of_beq_eq_true h1, Nat.eq_of_beq_eq_true h2, eqN_ok hp, Nat.eq_of_beq_eq_true h4]
    · cases h
  | .buf l, u, ps, h, hp => by
    cases u <;> simp only [recV] at h <;> first | (cases h; done) | skip
    split at h
    · rename_i hl; simp only [den, Nat.eq_of_beq_eq_true hl]
    · cases h
  | .slk l n c z j le, u, ps, h, hp => by
    cases u <;> simp only [recV] at h <;> first | (cases h; done) | skip
    split at h
    · rename_i hl
      simp only [Bool.and_eq_true] at hl
      obtain ⟨h1, h2, h3⟩ := hl
      cases h
      obtain ⟨e1, e2, e3⟩ := hp _ List.mem_cons_self
      simp only [den, Nat.eq_of_beq_eq_true h1, Nat.eq_of_beq_eq_true h2, Nat.eq_of_beq_eq_true h3, e1, e2, e3]
    · cases h
  | .bptr l o, u, ps, h, hp => by
    cases u <;> simp only [recV] at h <;> first | (cases h; done) | skip
    split at h
    · rename_i hl; cases h; simp only [den, eqN_ok hp, Nat.eq_of_beq_eq_true hl]
    · cases h
  | .bslc l lo hi, u, ps, h, hp => by
    cases u <;> simp only [recV] at h <;> first | (cases h; done) | skip
    split at h
    · rename_i hl; cases h; obtain ⟨e1, e2⟩ := hp _ List.mem_cons_self; simp only [den, e1, e2, Nat.eq_of_beq_eq_true hl]
    · cases h
  | .ros l n, u, ps, h, hp => by
    cases u <;> simp only [recV] at h <;> first | (cases h; done) | skip
    split at h
    · rename_i hl; cases h; simp only [den, eqN_ok hp, Nat.eq_of_beq_eq_true hl]
    · cases h
  | .ifc t v, u, ps, h, hp => by
    cases u <;> simp only [recV] at h <;> first | (cases h; done) | skip
    split at h
    · rename_i hl; simp only [den, recV_ok h hp, Nat.eq_of_beq_eq_true hl]
    · cases h
  | .fn f xs ys, u, ps, h, hp => by
    cases f with
    | func f =>
      cases u with
      | fn g us vs =>
        cases g with
        | func g =>
          simp only [recV] at h
          split at h
          · rename_i hf
            split at h
            · rename_i a b ha hb
              cases h
              simp only [den, recL_ok ha (mem_l hp), recL_ok hb (mem_r hp), Nat.eq_of_beq_eq_true hf]
            · cases h
          · cases h
        | _ => simp [recV] at h
      | _ => simp [recV] at h
    | _ => cases u <;> simp [recV] at h
  | .raw v, u, ps, h, hp => by
    cases u with
    | raw v' =>
      unfold recV at h
      split at h
      all_goals first
        | (cases h; have e := hp _ List.mem_cons_self; rename_i e1 e2; cases e1; cases e2; rw [e]; done)
        | (rename_i e1 e2; cases e1; cases e2; rfl)
        | (cases h; have e := hp _ List.mem_cons_self; rename_i e1 e2 _; cases e1; cases e2; rw [e]; done)
        | (simp_all; done)
        | skip
    | _ => simp [recV] at h
theorem recL_ok {V : Val} : ∀ {vs us : List SV} {ps : List Prop}, recL vs us = some ps → (∀ q ∈ ps, q) → denL V us = denL V vs
  | [], us, ps, h, hp => by
    cases us with
    | nil => rfl
    | cons => simp [recL] at h
  | v :: r, us, ps, h, hp => by
    cases us with
    | nil => simp [recL] at h
    | cons u t =>
      simp only [recL] at h
      split at h
      · rename_i a b ha hb
        cases h
        simp only [denL, recV_ok ha (mem_l hp), recL_ok hb (mem_r hp)]
      · cases h
end

/-- What is owed, if a block is to be said in other words. -/
def recB : SB → SB → Option (List Prop)
  | _, .gone => some []
  | .own cs t, .own ds t' => match Nat.beq t t' with
    | true => eqCs cs ds (recL cs ds)
    | false => none
  | .own cs t, .ints k xs t' => match intsK k cs with
    | some ns => some [ns = xs ∧ t = t']
    | none => none
  | .ints k xs t, .ints k' ys t' => match beqK k k' with
    | true => some [xs = ys ∧ t = t']
    | false => none
  | .ints k xs t, .own ds t' => match intsK k ds with
    | some ns => some [xs = ns ∧ t = t']
    | none => none
  | .roc cs, .roc ds => eqCs cs ds (recL cs ds)
  | .roc cs, .roi k xs => (intsK k cs).map fun ns => [ns = xs]
  | .roi k xs, .roi k' ys => match beqK k k' with
    | true => some [xs = ys]
    | false => none
  | .rowx sz n t, .rowx sz' n' t' => match Nat.beq sz sz' && Nat.beq t t' with
    | true => some (eqN false false n n')
    | false => none
  | .rowi k xs t, .rowi k' ys t' => match Nat.beq t t' && beqK k k' with
    | true => some [xs = ys]
    | false => none
  | .row z cs t, .row z' ds t' => match Nat.beq t t' && Nat.beq z z' with
    | true => recL cs ds
    | false => none
  | .vals vs t, .vals us t' => match Nat.beq t t' with
    | true => some [vs = us]
    | false => none
  | .own cs t, .vals us t' => match Nat.beq t t' with
    | true => some [∀ V : Val, denL V cs = some us]
    | false => none
  | .vals vs t, .own ds t' => match Nat.beq t t' with
    | true => some [∀ V : Val, denL V ds = some vs]
    | false => none
  | .rov k xs, .rov k' ys => match beqK k k' with
    | true => some [xs = ys]
    | false => none
  | _, _ => none

theorem recB_ok {V : Val} {w : World} {l : Nat} {B C : SB} {ps : List Prop} (h : recB B C = some ps) (hp : ∀ q ∈ ps, q) (hok : okB V w l B) :
    okB V w l C ∧ (∀ n, C.blk V l = some n → B.blk V l = some n) ∧ (C.owned = B.owned ∨ C = .gone) := by
  have gone : ∀ {D : SB}, okB V w l .gone ∧ (∀ n, SB.gone.blk V l = some n → D.blk V l = some n) ∧ (SB.gone.owned = D.owned ∨ SB.gone = .gone) := fun {D} => ⟨⟨[], rfl, trivial⟩, (fun n hn => by cases hn), Or.inr rfl⟩
  obtain ⟨cs, hc, h2⟩ := hok
  cases C with
  | gone => exact gone
  | own ds t' =>
    cases B with
    | own es t =>
      have key : t = t' ∧ denL V ds = denL V es := by
        simp only [recB] at h
        split at h
        · rename_i ht
          refine ⟨Nat.eq_of_beq_eq_true ht, ?_⟩
          rcases eqCs_ok h hp with e | e
          · exact e V V
          · exact recL_ok e hp
        · cases h
      obtain ⟨rfl, hd⟩ := key
      exact ⟨⟨cs, hd.trans hc, h2⟩, fun n hn => hn, .inl rfl⟩
    | ints k xs t =>
      simp only [recB] at h
      split at h
      · rename_i hk
        cases h
        obtain ⟨e, ht⟩ := hp _ List.mem_cons_self
        subst e ht
        simp only [SB.cells, Option.some.injEq] at hc
        subst hc
        exact ⟨⟨_, intsK_ok hk, h2⟩, fun n hn => hn, .inl rfl⟩
      · cases h
    | vals vs t =>
      simp only [recB] at h
      split at h
      · rename_i ht
        cases h
        have e := hp _ List.mem_cons_self
        have h3 := Nat.eq_of_beq_eq_true ht
        subst h3
        simp only [SB.cells, Option.some.injEq] at hc
        subst hc
        exact ⟨⟨_, e V, h2⟩, fun n hn => hn, .inl rfl⟩
      · cases h
    | _ => simp [recB] at h
  | ints k xs t' =>
    cases B with
    | own es t =>
      simp only [recB] at h
      split at h
      · rename_i hk
        cases h
        obtain ⟨e, ht⟩ := hp _ List.mem_cons_self
        subst e ht
        have : some cs = some _ := hc.symm.trans (intsK_ok hk)
        cases this
        exact ⟨⟨_, rfl, h2⟩, fun n hn => hn, .inl rfl⟩
      · cases h
    | ints k2 ys t =>
      simp only [recB] at h
      split at h
      · rename_i ht
        cases h
        obtain ⟨e, h3⟩ := hp _ List.mem_cons_self
        have h4 : _ = _ := of_decide_eq_true ht
        subst e h3 h4
        exact ⟨⟨cs, hc, h2⟩, fun n hn => hn, .inl rfl⟩
      · cases h
    | _ => simp [recB] at h
  | roc ds =>
    cases B with
    | roc es =>
      have hd : denL V ds = denL V es := by
        simp only [recB] at h
        rcases eqCs_ok h hp with e | e
        · exact e V V
        · exact recL_ok e hp
      exact ⟨⟨cs, hd.trans hc, h2⟩, fun n hn => hn, .inl rfl⟩
    | _ => simp [recB] at h
  | roi k xs =>
    cases B with
    | roc es =>
      simp only [recB, Option.map_eq_some_iff] at h
      obtain ⟨ns, hk, rfl⟩ := h
      have e := hp _ List.mem_cons_self
      subst e
      have : some cs = some _ := hc.symm.trans (intsK_ok hk)
      cases this
      exact ⟨⟨_, rfl, h2⟩, fun n hn => hn, .inl rfl⟩
    | roi k2 ys =>
      simp only [recB] at h
      split at h
      · rename_i ht
        cases h
        have e := hp _ List.mem_cons_self
        have h4 : _ = _ := of_decide_eq_true ht
        subst e h4
        exact ⟨⟨cs, hc, h2⟩, fun n hn => hn, .inl rfl⟩
      · cases h
    | _ => simp [recB] at h
  | rowx z m t' =>
    cases B with
    | rowx z2 m2 t =>
      simp only [recB] at h
      split at h
      · rename_i ht
        cases h
        simp only [Bool.and_eq_true] at ht
        have h3 := Nat.eq_of_beq_eq_true ht.1
        have h4 := Nat.eq_of_beq_eq_true ht.2
        have e := eqN_ok hp
        subst h3 h4 e
        exact ⟨⟨cs, hc, h2⟩, fun n hn => hn, .inl rfl⟩
      · cases h
    | _ => simp [recB] at h
  | rowi k xs t' =>
    cases B with
    | rowi k2 ys t =>
      simp only [recB] at h
      split at h
      · rename_i ht
        cases h
        simp only [Bool.and_eq_true] at ht
        have e := hp _ List.mem_cons_self
        have h3 := Nat.eq_of_beq_eq_true ht.1
        have h4 : _ = _ := of_decide_eq_true ht.2
        subst e h3 h4
        exact ⟨⟨cs, hc, h2⟩, fun n hn => hn, .inl rfl⟩
      · cases h
    | _ => simp [recB] at h
  | row z ds t' =>
    cases B with
    | row z2 es t =>
      simp only [recB] at h
      split at h
      · rename_i ht
        simp only [Bool.and_eq_true] at ht
        have h3 := Nat.eq_of_beq_eq_true ht.1
        have h4 := Nat.eq_of_beq_eq_true ht.2
        subst h3 h4
        exact ⟨⟨cs, (recL_ok h hp).trans hc, h2⟩, fun n hn => hn, .inl rfl⟩
      · cases h
    | _ => simp [recB] at h
  | rov k xs =>
    cases B with
    | rov k2 ys =>
      simp only [recB] at h
      split at h
      · rename_i ht
        cases h
        have e := hp _ List.mem_cons_self
        have h4 : _ = _ := of_decide_eq_true ht
        subst e h4
        exact ⟨⟨cs, hc, h2⟩, fun n hn => hn, .inl rfl⟩
      · cases h
    | _ => simp [recB] at h
  | vals us t' =>
    cases B with
    | own es t =>
      simp only [recB] at h
      split at h
      · rename_i ht
        cases h
        have e := hp _ List.mem_cons_self
        have h3 := Nat.eq_of_beq_eq_true ht
        subst h3
        have : some cs = some us := hc.symm.trans (e V)
        cases this
        exact ⟨⟨_, rfl, h2⟩, fun n hn => hn, .inl rfl⟩
      · cases h
    | vals vs t =>
      simp only [recB] at h
      split at h
      · rename_i ht
        cases h
        have e := hp _ List.mem_cons_self
        have h3 := Nat.eq_of_beq_eq_true ht
        subst e h3
        exact ⟨⟨cs, hc, h2⟩, fun n hn => hn, .inl rfl⟩
      · cases h
    | _ => simp [recB] at h

/-- A tree by a list. -/
noncomputable def trOf {α : Type} : List (Nat × α) → Tr α
  | [] => .lf
  | (k, v) :: r => match Tr.put v 64 (trOf r) k with
    | some t => t
    | none => .lf

theorem trOf_get {α : Type} : ∀ {l : List (Nat × α)} (n : Nat) (v : α), (trOf l).get n = some v → look n l = some v
  | [], n, v, h => by rw [trOf, Tr.get_lf] at h; cases h
  | (k, u) :: r, n, v, h => by
    unfold trOf at h
    split at h
    · rename_i t ht
      rw [Tr.get_put _ _ _ _ _ ht n] at h
      split at h
      · rename_i e; subst e; cases h; exact look_cons_eq _ _ _
      · rename_i e; rw [look_cons_ne (fun q => e q.symm)]; exact trOf_get n v h
    · rw [Tr.get_lf] at h; cases h


/-- A state by lists. -/
noncomputable def stOf (gs : List (Nat × SV)) (tb : List (Nat × SB)) (nx : Nat) (ws : List Nat) (df : List SV) : St := { g := trOf gs, tb := trOf tb, nx := nx, ws := ws, ob := [], df := df, hs := [] }
noncomputable def St.hint (s : St) (hs : List Bool) : St := { s with hs := hs }

def castG (g : Nat → Option SV) : List (Nat × SV) → Option (List Prop)
  | [] => some []
  | (t, u) :: r => match g t with
    | some v => match recV v u, castG g r with
      | some a, some b => some (a ++ b)
      | _, _ => none
    | none => none
def castB (g : Nat → Option SB) : List (Nat × SB) → Option (List Prop)
  | [] => some []
  | (t, u) :: r => match g t with
    | some v => match recB v u, castB g r with
      | some a, some b => some (a ++ b)
      | _, _ => none
    | none => none
def sameL : List Nat → List Nat → Bool
  | [], [] => true
  | a :: r, b :: t => match Nat.beq a b with
    | true => sameL r t
    | false => false
  | _, _ => false
theorem sameL_ok : ∀ {a b : List Nat}, sameL a b = true → a = b
  | [], b, h => by cases b <;> simp [sameL] at h ⊢
  | x :: r, b, h => by
    cases b with
    | nil => simp [sameL] at h
    | cons y t =>
      simp only [sameL] at h
      split at h
      · rename_i hb; rw [Nat.eq_of_beq_eq_true hb, sameL_ok h]
      · cases h
def someB (o : Option SB) : Bool := match o with
  | some _ => true
  | none => false

/-- What is owed, if a state is to be said in other words. -/
noncomputable def castS (F0 : Nat) (B : Tab) (gs : List (Nat × SV)) (tb : List (Nat × SB)) (nx : Nat) (ws : List Nat) (df : List SV) (s : St) : Option (List Prop) :=
  match castG s.g.get gs, castB (s.T B) tb, recL s.df df with
  | some a, some b, some c => match Nat.beq s.nx nx && ((s.ws.all fun l => ws.elem l) && ((ws.all fun l => someB ((trOf tb).get l)) && tb.all fun p => Nat.ble F0 p.1 || ws.elem p.1)) with
    | true => some (a ++ (b ++ c))
    | false => none
  | _, _, _ => none

theorem castG_ok {g : Nat → Option SV} : ∀ {gs : List (Nat × SV)} {ps : List Prop}, castG g gs = some ps → (∀ q ∈ ps, q) → ∀ t u, look t gs = some u → ∃ v, g t = some v ∧ ∀ V, den V u = den V v
  | [], ps, h, hp, t, u, hl => by cases hl
  | (k, u') :: r, ps, h, hp, t, u, hl => by
    simp only [castG] at h
    split at h
    case h_2 => cases h
    rename_i v hv
    split at h
    case h_2 => cases h
    rename_i a b ha hb
    cases h
    by_cases e : k = t
    · subst e; rw [look_cons_eq] at hl; cases hl; exact ⟨v, hv, fun V => recV_ok ha (mem_l hp)⟩
    · rw [look_cons_ne e] at hl; exact castG_ok hb (mem_r hp) t u hl
theorem castB_ok {g : Nat → Option SB} : ∀ {gs : List (Nat × SB)} {ps : List Prop}, castB g gs = some ps → (∀ q ∈ ps, q) → ∀ t u, look t gs = some u → ∃ v ps', g t = some v ∧ recB v u = some ps' ∧ ∀ q ∈ ps', q
  | [], ps, h, hp, t, u, hl => by cases hl
  | (k, u') :: r, ps, h, hp, t, u, hl => by
    simp only [castB] at h
    split at h
    case h_2 => cases h
    rename_i v hv
    split at h
    case h_2 => cases h
    rename_i a b ha hb
    cases h
    by_cases e : k = t
    · subst e; rw [look_cons_eq] at hl; cases hl; exact ⟨v, a, hv, ha, mem_l hp⟩
    · rw [look_cons_ne e] at hl; exact castB_ok hb (mem_r hp) t u hl

section
variable {P : Program} {Γ : Env} {w0 : World} {M : Nat → Prop} {B : Tab} {N F0 : Nat} {V0 : Val}

theorem Inv.cast (hb : Base Γ B F0 V0) {gs : List (Nat × SV)} {tb : List (Nat × SB)} {nx : Nat} {ws : List Nat} {df : List SV} {s : St} {ps : List Prop} (h : castS F0 B gs tb nx ws df s = some ps) (hp : ∀ q ∈ ps, q)
    {V : Val} {a : Act} {w : World} (hi : Inv P Γ w0 M B N F0 V0 s V a w) : Inv P Γ w0 M B N F0 V0 (stOf gs tb nx ws df) V a w := by
  unfold castS at h
  split at h
  case h_2 => cases h
  rename_i pa pb pc ha hbb hc
  split at h
  case h_2 => cases h
  rename_i hck
  cases h
  simp only [Bool.and_eq_true] at hck
  obtain ⟨k1, k2, k3, k4⟩ := hck
  have k1 := Nat.eq_of_beq_eq_true k1
  subst k1
  have k2 : ∀ l, l ∈ s.ws → l ∈ ws := fun l hl => by simpa using List.all_eq_true.1 k2 l hl
  have hG := castG_ok ha (mem_l hp)
  have hB := castB_ok hbb (mem_l (mem_r hp))
  have hD : denL V df = denL V s.df := recL_ok hc (mem_r (mem_r hp))
  have src : ∀ l b, (trOf tb).get l = some b → ∃ C, s.T B l = some C ∧ okB V w l b ∧ (∀ n, b.blk V l = some n → C.blk V l = some n) ∧ (b.owned = C.owned ∨ b = .gone) := by
    intro l b hl
    obtain ⟨C, ps', h4, h2, h3⟩ := hB l b (trOf_get l b hl)
    obtain ⟨r1, r2, r3⟩ := recB_ok h2 h3 (hi.tab.ok l C h4)
    exact ⟨C, h4, r1, r2, r3⟩
  have low : ∀ l, (trOf tb).get l = none → ∀ b, B l = some b → s.T B l = some b := by
    intro l hl b hbl
    have hlt : l < F0 := by
      apply Nat.lt_of_not_le
      intro q
      rw [hb.cut l q] at hbl
      cases hbl
    have hnw : l ∉ s.ws := fun hm => by
      have := List.all_eq_true.1 k3 l (k2 l hm)
      rw [hl] at this
      cases this
    simp only [St.T, hi.ch l hlt hnw, hbl]
  have srcT : ∀ l b, (stOf gs tb s.nx ws df).T B l = some b → ∃ C, s.T B l = some C ∧ okB V w l b ∧ (∀ n, b.blk V l = some n → C.blk V l = some n) ∧ (b.owned = C.owned ∨ b = .gone) := by
    intro l b hl
    simp only [St.T, stOf] at hl
    cases hg : (trOf tb).get l with
    | some b' => rw [hg] at hl; cases hl; exact src l _ hg
    | none =>
      rw [hg] at hl
      have := low l hg b hl
      exact ⟨b, this, hi.tab.ok l b this, fun n hn => hn, .inl rfl⟩
  refine ⟨fun t v hv => ?_, fun d v hv => ?_, hi.size, ?_, ⟨fun l b hl => ?_, fun l b l' b' n hne hl hl' ho hbk hbk' => ?_, fun l b n hl ho hbk => ?_, hi.tab.frame⟩, hi.glob, hi.top, hi.le, hi.low, fun l hl hn => ?_, hi.nx, fun l hl => ?_⟩
  · obtain ⟨u, h1, h2⟩ := hG t v (trOf_get t v hv)
    rw [h2]
    exact hi.tmp t u h1
  · obtain ⟨u, h1, _⟩ := hG d v (trOf_get d v hv)
    exact hi.keys d u h1
  · obtain ⟨xs, h1, h2⟩ := hi.defers
    exact ⟨xs, hD.trans h1, h2⟩
  · exact (srcT l b hl).choose_spec.2.1
  · obtain ⟨C, h1, _, h3, h4⟩ := srcT l b hl
    obtain ⟨C', h1', _, h3', _⟩ := srcT l' b' hl'
    have hCo : C.owned = true := by
      rcases h4 with h4 | h4
      · rw [← h4]; exact ho
      · subst h4; cases ho
    exact hi.tab.dist l C l' C' n hne h1 h1' hCo (h3 n hbk) (h3' n hbk')
  · obtain ⟨C, h1, _, h3, h4⟩ := srcT l b hl
    have hCo : C.owned = true := by
      rcases h4 with h4 | h4
      · rw [← h4]; exact ho
      · subst h4; cases ho
    exact hi.tab.perm l C n h1 hCo (h3 n hbk)
  · cases hg : (trOf tb).get l with
    | none => exact hg
    | some b =>
      have hm := List.all_eq_true.1 k4 _ (look_mem (trOf_get l b hg))
      simp only [Bool.or_eq_true] at hm
      rcases hm with hm | hm
      · have := Nat.le_of_ble_eq_true hm; omega
      · exact absurd (show l ∈ ws by simpa using hm) hn
  · cases hg : (stOf gs tb s.nx ws df).T B l with
    | none => rfl
    | some b => obtain ⟨C, h1, _⟩ := srcT l b hg; rw [hi.hi l hl] at h1; cases h1

/-- A run, and its end in other words. -/
noncomputable def toS (F0 : Nat) (B : Tab) (labs : List Nat) (gs : List (Nat × SV)) (tb : List (Nat × SB)) (nx : Nat) (ws : List Nat) (df : List SV) (r : Option Cfg) : Option (Cf × List Fr × List Prop) := match r with
  | some r => match normS F0 (gs.map (·.1)) labs [] r.st with
    | some s => match castS F0 B gs tb nx ws df s with
      | some ps => some (r.cf, r.fr, r.st.ob ++ ps)
      | none => none
    | none => none
  | none => none

theorem G.to (hty : TyOK P Γ) (hsum : SumsOK P Γ) (hmix : P.follows .mixedOrders = true) (hb : Base Γ B F0 V0) {stops : List Nat} {lf n : Nat} {cf cf' : Cf} {K K' : List Fr} {s : St} (hs : List Bool) {labs : List Nat} {gs : List (Nat × SV)} {tb : List (Nat × SB)} {nx : Nat} {ws : List Nat} {df : List SV} {ps : List Prop} {Q : Exit → Act → World → Prop}
    (h : toS F0 B labs gs tb nx ws df (mrun Γ B F0 N stops lf n cf K (s.hint hs)) = some (cf', K', ps)) (hp : ∀ q ∈ ps, q) (hG : G P Γ w0 M B N F0 V0 cf' K' (stOf gs tb nx ws df) Q) : G P Γ w0 M B N F0 V0 cf K s Q := by
  unfold toS at h
  split at h
  case h_2 => cases h
  rename_i r hr
  split at h
  case h_2 => cases h
  rename_i s1 h1
  split at h
  case h_2 => cases h
  rename_i ps' h2
  cases h
  have hrun : G P Γ w0 M B N F0 V0 cf K (s.hint hs) Q := by
    refine G.run hty hsum hmix hr (mem_l hp) (G.norm hb h1 ?_)
    intro V a w hi
    exact hG V a w (hi.cast hb h2 (mem_r hp))
  intro V a w hi
  exact hrun V a w (hi.hints s.ob hs)

/-- The same with a round's end. -/
theorem G.round (hty : TyOK P Γ) (hsum : SumsOK P Γ) (hmix : P.follows .mixedOrders = true) (hb : Base Γ B F0 V0) {stops : List Nat} {lf n : Nat} {cf : Cf} {K1 K : List Fr} {s : St} (hs : List Bool) {labs : List Nat} {gs : List (Nat × SV)} {tb : List (Nat × SB)} {nx : Nat} {ws : List Nat} {df : List SV} {ps : List Prop} {Q : Exit → Act → World → Prop} {S : Nat → St → Prop} {r : Nat}
    (h : toS F0 B labs gs tb nx ws df (mrun Γ B F0 N stops lf n cf K1 (s.hint hs)) = some (.at .normal, [], ps)) (hp : ∀ q ∈ ps, q) (r' : Nat) (hlt : r' < r) (hS : S r' (stOf gs tb nx ws df)) :
    G P Γ w0 M B N F0 V0 cf K1 s (Exit.then (fun a w => ∃ r', r' < r ∧ ∃ s', S r' s' ∧ ∃ V, Inv P Γ w0 M B N F0 V0 s' V a w) (KQ P K Q)) :=
  G.to hty hsum hmix hb hs h hp (G.again fun V _ _ hi => ⟨r', hlt, _, hS, V, hi⟩)

/-- A run to the body's end. -/
noncomputable def endR (Γ : Env) (T : Tab) (lab F : Nat) (fn : Func) (r : Option Cfg) : Option Eff := match r with
  | some r => match r.cf, r.fr with
    | .at x, [] => endS Γ T lab F fn x r.st
    | _, _ => none
  | none => none

theorem finish_ob {F lab : Nat} {s : St} {v : SV} {e : Eff} (h : finish F lab s v = some e) : e.obl = s.ob := by
  unfold finish at h
  split at h
  · cases h
  · simp only at h
    split at h
    · cases h; rfl
    · cases h
theorem endS_ob {Γ : Env} {T : Tab} {lab F : Nat} {fn : Func} {x : Ex} {s : St} {e : Eff} (h : endS Γ T lab F fn x s = some e) : ∀ q ∈ s.ob, q ∈ e.obl := by
  have main : (match runDf Γ (cutT F T) F fn.ntmps s.df s with
      | some s => match resL Γ s.g.get (s.T (cutT F T)) fn.results.toList with
        | some (ob, rs) => finish F lab (s.owe ob) (res rs)
        | none => none
      | none => none) = some e → ∀ q ∈ s.ob, q ∈ e.obl := by
    intro h q hq
    split at h
    case h_2 => cases h
    rename_i s2 h2
    split at h
    case h_2 => cases h
    rw [finish_ob h]
    exact List.mem_append_right _ (runDf_ob h2 q hq)
  cases x with
  | exit id => cases h
  | normal => exact main h
  | ret => exact main h

theorem G.fin (hty : TyOK P Γ) (hsum : SumsOK P Γ) (hmix : P.follows .mixedOrders = true) {T : Tab} {lab : Nat} {fn : Func} {e e' : Eff} {stops : List Nat} {lf n : Nat} {cf : Cf} {K : List Fr} {s : St} (hs : List Bool) {Q : Exit → Act → World → Prop}
    (H : ∀ x s e', endS Γ T lab F0 fn x s = some e' → (∀ q ∈ e'.obl, q) → e'.val = e.val → e'.new = e.new → e'.wr = e.wr → G P Γ w0 M (cutT F0 T) fn.ntmps F0 V0 (.at x) [] s Q)
    (h : endR Γ T lab F0 fn (mrun Γ (cutT F0 T) F0 fn.ntmps stops lf n cf K (s.hint hs)) = some e') (hp : ∀ q ∈ e'.obl, q) (h1 : e'.val = e.val) (h2 : e'.new = e.new) (h3 : e'.wr = e.wr) :
    G P Γ w0 M (cutT F0 T) fn.ntmps F0 V0 cf K s Q := by
  unfold endR at h
  split at h
  case h_2 => cases h
  rename_i r hr
  split at h
  case h_2 => cases h
  rename_i x hx hf
  have hrun : G P Γ w0 M (cutT F0 T) fn.ntmps F0 V0 cf K (s.hint hs) Q := by
    refine G.run hty hsum hmix hr (fun q hq => hp q (endS_ob h q hq)) ?_
    rw [hx, hf]
    exact H x r.st e' h hp h1 h2 h3
  intro V a w hi
  exact hrun V a w (hi.hints s.ob hs)
end
end Go.Proofs.YtdhombdiakjdhaaGreatDoor.Sx
end
section
open Go
namespace Go.Proofs.YtdhombdiakjdhaaGreatDoor.Sx

/-- The label in whose block a slice lies. -/
def labOf : SV → Option Nat
  | .slc l _ _ _ _ => some l
  | .buf l => some l
  | .bslc l _ _ => some l
  | .ros l _ => some l
  | .slcR l _ _ _ => some l
  | _ => none

/-- What a slice holds that is only read. -/
def seqRo (T : Tab) (k : IntKind) : SV → Option (List Prop × List Int)
  | .raw (.slice none 0 0) => some ([], [])
  | .slc l _ off len cap => match T l with
    | some (.ints k2 xs _) => match beqK k k2 with
      | true => some ([off + len ≤ xs.length ∧ len ≤ cap], (xs.drop off).take len)
      | false => none
    | some (.roi k2 xs) => match beqK k k2 with
      | true => some ([off + len ≤ xs.length ∧ len ≤ cap], (xs.drop off).take len)
      | false => none
    | some (.own cs _) => match intsK k cs with
      | some xs => some ([off + len ≤ xs.length ∧ len ≤ cap], (xs.drop off).take len)
      | none => none
    | some (.roc cs) => match intsK k cs with
      | some xs => some ([off + len ≤ xs.length ∧ len ≤ cap], (xs.drop off).take len)
      | none => none
    | _ => none
  | .buf l => match T l with
    | some (.rowi k2 xs _) => match beqK k k2 with
      | true => some ([], xs)
      | false => none
    | _ => none
  | .bslc l lo hi => match T l with
    | some (.rowi k2 xs _) => match beqK k k2 with
      | true => some ([lo ≤ hi ∧ hi ≤ xs.length], (xs.drop lo).take (hi - lo))
      | false => none
    | _ => none
  | .ros l _ => match T l with
    | some (.rov k2 xs) => match beqK k k2 with
      | true => some ([], xs)
      | false => none
    | _ => none
  | .slcR l off len lo => match T l with
    | some (.row sz cs _) => match Nat.beq sz 1, intsK k cs with
      | true, some xs => some ([off + len ≤ xs.length ∧ lo ≤ off], (xs.drop off).take len)
      | _, _ => none
    | _ => none
  | _ => none

section
variable {w0 w : World} {M : Nat → Prop} {V : Val} {T : Tab}

theorem seqRo_ok {k : IntKind} {v : SV} {x : Value} {ob : List Prop} {ys : List Int} (hT : TabOK w0 M V T w) (hv : den V v = some x) (h : seqRo T k v = some (ob, ys)) (ho : ∀ q ∈ ob, q) :
    RdOK w k x ys ∧ ∀ n, roBlk x = some n → ∃ l B, labOf v = some l ∧ T l = some B ∧ B.blk V l = some n := by
  have slc : ∀ (l : Nat) (B : SB) (s : Bool) (off len cap : Nat) (xs : List Int), v = .slc l s off len cap → T l = some B → B.cells V = some (xs.map (Value.int k)) →
      (∀ b o, V.β l = some (b, o) → b < w.heap.size ∧ B.blk V l = some b ∧ ∀ (j : Nat) (u : Value), (xs.map (Value.int k))[j]? = some u → w.cell? ⟨b, o + j, none⟩ = some u) →
      off + len ≤ xs.length → len ≤ cap → ys = (xs.drop off).take len → RdOK w k x ys ∧ ∀ n, roBlk x = some n → ∃ l B, labOf v = some l ∧ T l = some B ∧ B.blk V l = some n := by
    intro l B s off len cap xs hvv hB hc hblk h1 h2 hys
    subst hvv
    simp only [den, Option.map_eq_some_iff] at hv
    obtain ⟨⟨b, o⟩, hβ, rfl⟩ := hv
    obtain ⟨g1, g2, g3⟩ := hblk b o hβ
    have hlen : ys.length = len := by rw [hys]; simp; omega
    refine ⟨.inr ⟨b, o + off, cap, by rw [hlen], g1, by omega, fun j u hj => ?_⟩, fun n hn => ?_⟩
    · rw [Nat.add_assoc]
      apply g3
      rw [hys] at hj
      simp only [List.map_take, List.map_drop, List.getElem?_take] at hj
      split at hj
      · rwa [List.getElem?_drop] at hj
      · cases hj
    · cases roBlk_own hn
      exact ⟨l, B, rfl, hB, g2⟩
  unfold seqRo at h
  split at h
  · cases h
    simp only [den, Option.some.injEq] at hv
    subst hv
    exact ⟨.inl ⟨.nil, rfl⟩, fun n hn => by cases hn⟩
  · rename_i l s off len cap
    split at h
    · rename_i k2 xs ty hB
      split at h
      case h_2 => cases h
      rename_i hk
      have hk : k = k2 := of_decide_eq_true hk
      subst hk
      cases h
      obtain ⟨h1, h2⟩ := ho _ List.mem_cons_self
      obtain ⟨cs, hc, b', hb', hh⟩ := hT.ok l _ hB
      cases hc
      refine slc l _ s off len cap xs rfl hB rfl (fun b o hβ => ?_) h1 h2 rfl
      rw [hβ] at hb'; cases hb'
      exact ⟨(Array.getElem?_eq_some_iff.1 hh).1, by simp [SB.blk, hβ], fun j u hj => by rw [cell_of_row w _ (0 + j) _ _ _ hh]; simpa using hj⟩
    · rename_i k2 xs hB
      split at h
      case h_2 => cases h
      rename_i hk
      have hk : k = k2 := of_decide_eq_true hk
      subst hk
      cases h
      obtain ⟨h1, h2⟩ := ho _ List.mem_cons_self
      obtain ⟨cs, hc, b', o', hb', hlt, hh⟩ := hT.ok l _ hB
      cases hc
      refine slc l _ s off len cap xs rfl hB rfl (fun b o hβ => ?_) h1 h2 rfl
      rw [hβ] at hb'; cases hb'
      exact ⟨hlt.lt, by simp [SB.blk, hβ], hh⟩
    · rename_i cells ty hB
      split at h
      case h_2 => cases h
      rename_i xs hk
      cases h
      obtain ⟨h1, h2⟩ := ho _ List.mem_cons_self
      obtain ⟨cs, hc, b', hb', hh⟩ := hT.ok l _ hB
      have e : some cs = some _ := hc.symm.trans (intsK_ok hk)
      cases e
      refine slc l _ s off len cap xs rfl hB hc (fun b o hβ => ?_) h1 h2 rfl
      rw [hβ] at hb'; cases hb'
      exact ⟨(Array.getElem?_eq_some_iff.1 hh).1, by simp [SB.blk, hβ], fun j u hj => by rw [cell_of_row w _ (0 + j) _ _ _ hh]; simpa using hj⟩
    · rename_i cells hB
      split at h
      case h_2 => cases h
      rename_i xs hk
      cases h
      obtain ⟨h1, h2⟩ := ho _ List.mem_cons_self
      obtain ⟨cs, hc, b', o', hb', hlt, hh⟩ := hT.ok l _ hB
      have e : some cs = some _ := hc.symm.trans (intsK_ok hk)
      cases e
      refine slc l _ s off len cap xs rfl hB hc (fun b o hβ => ?_) h1 h2 rfl
      rw [hβ] at hb'; cases hb'
      exact ⟨hlt.lt, by simp [SB.blk, hβ], hh⟩
    · cases h
  · rename_i l
    split at h
    case h_2 => cases h
    rename_i k2 xs ty hB
    split at h
    case h_2 => cases h
    rename_i hk
    have hk : k = k2 := of_decide_eq_true hk
    subst hk
    cases h
    obtain ⟨cs, hc, u, hσ, hrow⟩ := hT.ok l _ hB
    cases hc
    simp only [den, hσ, Option.some.injEq] at hv
    subst hv
    refine ⟨?_, fun n hn => ⟨l, _, rfl, hB, by simp [SB.blk, hσ, roBlk_own hn]⟩⟩
    rcases hrow.2 with ⟨rfl, h0⟩ | ⟨gb, cap, cur, rfl, _, hh, hle, _, _, htake⟩
    · exact .inl ⟨.nil, List.eq_nil_of_length_eq_zero h0⟩
    · refine .inr ⟨gb, 0, cap, rfl, (Array.getElem?_eq_some_iff.1 hh).1, hle, fun j u hj => ?_⟩
      rw [cell_of_row w gb _ _ _ _ hh]
      rw [← htake, List.getElem?_take] at hj
      split at hj
      · simpa using hj
      · cases hj
  · rename_i l lo hi
    split at h
    case h_2 => cases h
    rename_i k2 xs ty hB
    split at h
    case h_2 => cases h
    rename_i hk
    have hk : k = k2 := of_decide_eq_true hk
    subst hk
    cases h
    obtain ⟨h1, h2⟩ := ho _ List.mem_cons_self
    obtain ⟨cs, hc, u, hσ, hrow⟩ := hT.ok l _ hB
    cases hc
    have hlen : ((xs.drop lo).take (hi - lo)).length = hi - lo := by simp; omega
    rcases hrow.2 with ⟨rfl, h0⟩ | ⟨gb, cap, cur, rfl, _, hh, hle, _, _, htake⟩
    · have : xs = [] := List.eq_nil_of_length_eq_zero h0
      subst this
      have e0 : lo = 0 ∧ hi = 0 := by simp at h2; omega
      obtain ⟨rfl, rfl⟩ := e0
      simp only [den, hσ, Option.some.injEq] at hv
      subst hv
      exact ⟨.inl ⟨⟨none, by simp⟩, by simp⟩, fun n hn => by cases roBlk_own hn⟩
    · simp only [den, hσ, Option.some.injEq] at hv
      by_cases hcl : cap = lo
      · rw [if_pos hcl] at hv
        subst hv
        refine ⟨.inr ⟨gb, 0, cap - lo, by rw [hlen], (Array.getElem?_eq_some_iff.1 hh).1, by omega, fun j u hj => ?_⟩, fun n hn => ⟨l, _, rfl, hB, by simpa [SB.blk, hσ, Value.ownBlock] using roBlk_own hn⟩⟩
        have h0 : hi - lo = 0 := by omega
        rw [h0] at hj
        simp at hj
      · rw [if_neg hcl, Option.map_some, add_addr] at hv
        subst hv
        refine ⟨.inr ⟨gb, 0 + lo, cap - lo, by rw [hlen], (Array.getElem?_eq_some_iff.1 hh).1, by omega, fun j u hj => ?_⟩, fun n hn => ⟨l, _, rfl, hB, by simpa [SB.blk, hσ, Value.ownBlock] using roBlk_own hn⟩⟩
        rw [cell_of_row w gb _ _ _ _ hh]
        have h5 : (xs.map (Value.int k))[lo + j]? = some u := by
          simp only [List.map_take, List.map_drop, List.getElem?_take] at hj
          split at hj
          · rwa [List.getElem?_drop] at hj
          · cases hj
        rw [← htake, List.getElem?_take] at h5
        split at h5
        · simpa using h5
        · cases h5
  · rename_i l n0
    split at h
    case h_2 => cases h
    rename_i k2 xs hB
    split at h
    case h_2 => cases h
    rename_i hk
    have hk : k = k2 := of_decide_eq_true hk
    subst hk
    cases h
    obtain ⟨cs, hc, u, hσ, hrow⟩ := hT.ok l _ hB
    cases hc
    simp only [den, Option.bind_eq_some_iff] at hv
    obtain ⟨u', hσ', hv⟩ := hv
    rw [hσ] at hσ'
    cases hσ'
    obtain ⟨rfl, _⟩ := rosV_ok hv
    refine ⟨?_, fun n hn => ⟨l, _, rfl, hB, by simp [SB.blk, hσ, hn]⟩⟩
    exact hrow
  · rename_i l off len lo
    split at h
    case h_2 => cases h
    rename_i sz cells ty hB
    split at h
    case h_2 => cases h
    rename_i xs hsz hk
    cases h
    have hsz := Nat.eq_of_beq_eq_true hsz
    subst hsz
    obtain ⟨h1, h2⟩ := ho _ List.mem_cons_self
    obtain ⟨cs, hc, b, cap, cur, hβ, hσ, hh, hle, hcs, ⟨n, hn, hnc⟩, htake⟩ := hT.ok l _ hB
    have e : some cs = some _ := hc.symm.trans (intsK_ok hk)
    cases e
    simp only [den, hβ, hσ, capOf, Option.bind_some, Option.map_some, Option.some.injEq] at hv
    subst hv
    have hlen : ((xs.drop off).take len).length = len := by simp; omega
    simp only [List.length_map, Nat.mul_one] at hn
    refine ⟨.inr ⟨b, 0 + off, cap - lo, by simp only [Int.toNat_natCast, hlen], (Array.getElem?_eq_some_iff.1 hh).1, by omega, fun j u hj => ?_⟩, fun n hn => ⟨l, _, rfl, hB, by simpa [SB.blk, hβ, Value.ownBlock] using roBlk_own hn⟩⟩
    rw [cell_of_row w b _ _ _ _ hh]
    have h5 : (xs.map (Value.int k))[off + j]? = some u := by
      simp only [List.map_take, List.map_drop, List.getElem?_take] at hj
      split at hj
      · rwa [List.getElem?_drop] at hj
      · cases hj
    rw [← htake, List.getElem?_take] at h5
    split at h5
    · simpa using h5
    · cases h5
  · cases h

theorem RdOK.ros {k : IntKind} {x : Value} {ys : List Int} (h : RdOK w k x ys) : rosV ys.length x = some x := by
  rcases h with ⟨⟨a, rfl⟩, rfl⟩ | ⟨b, o, c, rfl, _, hc, _⟩
  · cases a <;> simp [rosV]
  · unfold rosV; exact if_pos ⟨rfl, hc, .inr rfl⟩

mutual
/-- A value, as a call sees it. -/
def fitV (vw : Vw) (T0 : List (Nat × SB)) (T : Tab) : SV → SV → Option (List Prop)
  | .ptr l s o, .ptr l0 s' o' => match vw l0 with
    | some (.lab l' off) => match Nat.beq l l' with
      | true => some (eqN s s' o (off + o'))
      | false => none
    | _ => none
  | .slc l s o n c, .slc l0 s' o' n' c' => match vw l0 with
    | some (.lab l' off) => match Nat.beq l l' with
      | true => some (eqN s s' o (off + o') ++ (eqN s s' n n' ++ eqN s s' c c'))
      | false => none
    | _ => none
  | .buf l, .buf l0 => match vw l0 with
    | some (.lab l' 0) => match Nat.beq l l' with
      | true => some []
      | false => none
    | _ => none
  | .slcR l o n lo, .slcR l0 o' n' lo' => match vw l0 with
    | some (.lab l' 0) => match Nat.beq l l' && (Nat.beq o o' && Nat.beq lo lo') with
      | true => some (eqN false false n n')
      | false => none
    | _ => none
  | v, .ros l0 n0 => match vw l0, look l0 T0 with
    | some (.val u), some (.rov k _) => match recV u v, seqRo T k v with
      | some p, some (ob, xs) => some (p ++ (ob ++ [n0 = xs.length]))
      | _, _ => none
    | _, _ => none
  | .ifc t v, .ifc t' v' => match Nat.beq t t' with
    | true => fitV vw T0 T v v'
    | false => none
  | .agg vs, .agg us => eqCs vs us (fitL vw T0 T vs us)
  | .tup vs, .tup us => fitL vw T0 T vs us
  | .fn (.func f) xs ys, .fn (.func g) us vs => match Nat.beq f g with
    | true => match fitL vw T0 T xs us, fitL vw T0 T ys vs with
      | some a, some b => some (a ++ b)
      | _, _ => none
    | false => none
  | v, u => match pure1 v && pure1 u with
    | true => recV v u
    | false => none
def fitL (vw : Vw) (T0 : List (Nat × SB)) (T : Tab) : List SV → List SV → Option (List Prop)
  | [], [] => some []
  | v :: r, u :: t => match fitV vw T0 T v u, fitL vw T0 T r t with
    | some a, some b => some (a ++ b)
    | _, _ => none
  | _, _ => none
end

mutual
theorem fitV_ok {vw : Vw} {T0 : List (Nat × SB)} (hT : TabOK w0 M V T w) : ∀ {u v : SV} {ps : List Prop}, fitV vw T0 T v u = some ps → (∀ q ∈ ps, q) → ∀ x, den V v = some x → den (seen vw V) u = some x
  | .ptr l0 s' o', v, ps, h, hp, x, hx => by
    cases v <;> simp only [fitV, pure1, Bool.and_false] at h <;> first | (cases h; done) | skip
    split at h
    · rename_i l' off hl
      split at h
      · rename_i hb
        have hb := Nat.eq_of_beq_eq_true hb
        subst hb
        cases h
        have e := eqN_ok hp
        subst e
        simp only [den, Option.map_eq_some_iff] at hx ⊢
        obtain ⟨p, hp, rfl⟩ := hx
        exact ⟨(p.1, p.2 + off), by rw [(seen_at hl).1, hp]; rfl, by simp only [Nat.add_assoc]⟩
      · cases h
    · cases h
  | .slc l0 s' o' n' c', v, ps, h, hp, x, hx => by
    cases v <;> simp only [fitV, pure1, Bool.and_false] at h <;> first | (cases h; done) | skip
    split at h
    · rename_i l' off hl
      split at h
      · rename_i hb
        have hb := Nat.eq_of_beq_eq_true hb
        subst hb
        cases h
        have e1 := eqN_ok (mem_l hp)
        have e2 := eqN_ok (mem_l (mem_r hp))
        have e3 := eqN_ok (mem_r (mem_r hp))
        subst e1 e2 e3
        simp only [den, Option.map_eq_some_iff] at hx ⊢
        obtain ⟨p, hp, rfl⟩ := hx
        exact ⟨(p.1, p.2 + off), by rw [(seen_at hl).1, hp]; rfl, by simp only [Nat.add_assoc]⟩
      · cases h
    · cases h
  | .buf l0, v, ps, h, hp, x, hx => by
    cases v <;> simp only [fitV, pure1, Bool.and_false] at h <;> first | (cases h; done) | skip
    split at h
    · rename_i l' hl
      split at h
      · rename_i hb
        have hb := Nat.eq_of_beq_eq_true hb
        subst hb
        simp only [den] at hx ⊢
        rw [(seen_at hl).2, hx]
      · cases h
    · cases h
  | .slcR l0 o' n' lo', v, ps, h, hp, x, hx => by
    cases v <;> simp only [fitV, pure1, Bool.and_false] at h <;> first | (cases h; done) | skip
    split at h
    · rename_i l' hl
      split at h
      · rename_i hb
        simp only [Bool.and_eq_true] at hb
        obtain ⟨b1, b2, b3⟩ := hb
        have b1 := Nat.eq_of_beq_eq_true b1
        have b2 := Nat.eq_of_beq_eq_true b2
        have b3 := Nat.eq_of_beq_eq_true b3
        subst b1 b2 b3
        cases h
        have e := eqN_ok hp
        subst e
        simp only [den, Option.map_eq_some_iff, Option.bind_eq_some_iff] at hx ⊢
        obtain ⟨p, hp, c, hc, rfl⟩ := hx
        refine ⟨p, by rw [(seen_at hl).1, hp]; rfl, c, by rw [(seen_at hl).2]; exact hc, rfl⟩
      · cases h
    · cases h
  | .ros l0 n0, v, ps, h, hp, x, hx => by
    have key : (match vw l0, look l0 T0 with
      | some (.val u), some (.rov k _) => match recV u v, seqRo T k v with
        | some p, some (ob, xs) => some (p ++ (ob ++ [n0 = xs.length]))
        | _, _ => none
      | _, _ => none) = some ps := by cases v <;> simpa only [fitV] using h
    split at key
    case h_2 => cases key
    rename_i u k ys hvw hl0
    split at key
    case h_2 => cases key
    rename_i p ob xs h1 h2
    cases key
    have hd : den V v = den V u := recV_ok h1 (mem_l hp)
    obtain ⟨hr, _⟩ := seqRo_ok hT hx h2 (mem_l (mem_r hp))
    have hn : n0 = xs.length := (mem_r (mem_r hp)) _ List.mem_cons_self
    simp only [den, Option.bind_eq_some_iff]
    exact ⟨x, by rw [seen_val hvw, ← hd, hx], by rw [hn]; exact hr.ros⟩
  | .ifc t' v', v, ps, h, hp, x, hx => by
    cases v <;> simp only [fitV, pure1, Bool.and_false] at h <;> first | (cases h; done) | skip
    split at h
    · rename_i hb
      have hb := Nat.eq_of_beq_eq_true hb
      subst hb
      simp only [den, Option.map_eq_some_iff] at hx ⊢
      obtain ⟨y, hy, rfl⟩ := hx
      exact ⟨y, fitV_ok hT h hp y hy, rfl⟩
    · cases h
  | .agg us, v, ps, h, hp, x, hx => by
    have pure : (pure1 v && pure1 (.agg us)) = true → recV v (.agg us) = some ps → den (seen vw V) (.agg us) = some x := by
      intro hpu hr
      simp only [Bool.and_eq_true] at hpu
      rw [pure1_ok (V := seen vw V) (V' := V) hpu.2, recV_ok hr hp, hx]
    cases v with
    | agg vs =>
      simp only [fitV] at h
      simp only [den, Option.map_eq_some_iff] at hx ⊢
      obtain ⟨y, hy, rfl⟩ := hx
      rcases eqCs_ok h hp with e | e
      · exact ⟨y, (e V (seen vw V)).trans hy, rfl⟩
      · exact ⟨y, fitL_ok hT e hp y hy, rfl⟩
    | _ =>
      simp only [fitV] at h
      split at h
      · rename_i hpu; exact pure hpu h
      · cases h
  | .tup us, v, ps, h, hp, x, hx => by
    have pure : (pure1 v && pure1 (.tup us)) = true → recV v (.tup us) = some ps → den (seen vw V) (.tup us) = some x := by
      intro hpu hr
      simp only [Bool.and_eq_true] at hpu
      rw [pure1_ok (V := seen vw V) (V' := V) hpu.2, recV_ok hr hp, hx]
    cases v with
    | tup vs =>
      simp only [fitV] at h
      simp only [den, Option.map_eq_some_iff] at hx ⊢
      obtain ⟨y, hy, rfl⟩ := hx
      exact ⟨y, fitL_ok hT h hp y hy, rfl⟩
    | _ =>
      simp only [fitV] at h
      split at h
      · rename_i hpu; exact pure hpu h
      · cases h
  | .fn g us vs, v, ps, h, hp, x, hx => by
    cases v with
    | fn f xs ys =>
      cases f with
      | func f =>
        cases g with
        | func g =>
          simp only [fitV] at h
          split at h
          · rename_i hf
            have hf := Nat.eq_of_beq_eq_true hf
            subst hf
            split at h
            · rename_i a b ha hb
              cases h
              simp only [den, Option.bind_eq_some_iff, Option.map_eq_some_iff] at hx ⊢
              obtain ⟨y, hy, z, hz, rfl⟩ := hx
              exact ⟨y, fitL_ok hT ha (mem_l hp) y hy, z, fitL_ok hT hb (mem_r hp) z hz, rfl⟩
            · cases h
          · cases h
        | _ => simp [fitV, pure1] at h
      | _ => simp [fitV, pure1] at h
    | _ => cases g <;> simp [fitV, pure1] at h
  | .int s k n, v, ps, h, hp, x, hx => by
    have h2 : (match pure1 v && pure1 (.int s k n) with
      | true => recV v (.int s k n)
      | false => none) = some ps := by cases v <;> simpa only [fitV] using h
    split at h2
    · rename_i hpu
      simp only [Bool.and_eq_true] at hpu
      rw [pure1_ok (V := seen vw V) (V' := V) hpu.2, recV_ok h2 hp, hx]
    · cases h2
  | .bool s b, v, ps, h, hp, x, hx => by
    have h2 : (match pure1 v && pure1 (.bool s b) with
      | true => recV v (.bool s b)
      | false => none) = some ps := by cases v <;> simpa only [fitV] using h
    split at h2
    · rename_i hpu
      simp only [Bool.and_eq_true] at hpu
      rw [pure1_ok (V := seen vw V) (V' := V) hpu.2, recV_ok h2 hp, hx]
    · cases h2
  | .raw y, v, ps, h, hp, x, hx => by
    have h2 : (match pure1 v && pure1 (.raw y) with
      | true => recV v (.raw y)
      | false => none) = some ps := by cases v <;> simpa only [fitV] using h
    split at h2
    · rename_i hpu
      simp only [Bool.and_eq_true] at hpu
      rw [pure1_ok (V := seen vw V) (V' := V) hpu.2, recV_ok h2 hp, hx]
    · cases h2
  | .ai k ys, v, ps, h, hp, x, hx => by
    have h2 : (match pure1 v && pure1 (.ai k ys) with
      | true => recV v (.ai k ys)
      | false => none) = some ps := by cases v <;> simpa only [fitV] using h
    split at h2
    · rename_i hpu
      simp only [Bool.and_eq_true] at hpu
      rw [pure1_ok (V := seen vw V) (V' := V) hpu.2, recV_ok h2 hp, hx]
    · cases h2
  | .bptr .., v, ps, h, hp, x, hx => by cases v <;> simp [fitV, pure1] at h
  | .slk .., v, ps, h, hp, x, hx => by cases v <;> simp [fitV, pure1] at h
  | .bslc .., v, ps, h, hp, x, hx => by cases v <;> simp [fitV, pure1] at h
theorem fitL_ok {vw : Vw} {T0 : List (Nat × SB)} (hT : TabOK w0 M V T w) : ∀ {us vs : List SV} {ps : List Prop}, fitL vw T0 T vs us = some ps → (∀ q ∈ ps, q) → ∀ xs, denL V vs = some xs → denL (seen vw V) us = some xs
  | [], vs, ps, h, hp, xs, hx => by
    cases vs with
    | nil => exact hx
    | cons => simp [fitL] at h
  | u :: t, vs, ps, h, hp, xs, hx => by
    cases vs with
    | nil => simp [fitL] at h
    | cons v r =>
      simp only [fitL] at h
      split at h
      · rename_i a b ha hb
        cases h
        simp only [denL, Option.bind_eq_some_iff, Option.map_eq_some_iff] at hx ⊢
        obtain ⟨y, hy, ys, hys, rfl⟩ := hx
        exact ⟨y, fitV_ok hT ha (mem_l hp) y hy, ys, fitL_ok hT hb (mem_r hp) ys hys, rfl⟩
      · cases h
end

/-- A block, as a call sees it by the same address. -/
def fitB0 (vw : Vw) (T0 : List (Nat × SB)) (T : Tab) : SB → SB → Option (List Prop)
  | _, .gone => some []
  | .own cs t, .own ds t' => match Nat.beq t t' with
    | true => eqCs cs ds (fitL vw T0 T cs ds)
    | false => none
  | .own cs t, .ints k xs t' => match intsK k cs with
    | some ns => some [ns = xs ∧ t = t']
    | none => none
  | .ints k xs t, .ints k' ys t' => match beqK k k' with
    | true => some [xs = ys ∧ t = t']
    | false => none
  | .ints k xs t, .own ds t' => match intsK k ds with
    | some ns => some [xs = ns ∧ t = t']
    | none => none
  | .own cs _, .roc ds => eqCs cs ds (fitL vw T0 T cs ds)
  | .ints k xs _, .roc ds => (intsK k ds).map fun ns => [xs = ns]
  | .own cs _, .roi k xs => (intsK k cs).map fun ns => [ns = xs]
  | .ints k xs _, .roi k' ys => match beqK k k' with
    | true => some [xs = ys]
    | false => none
  | .row sz cs t, .row sz' ds t' => match Nat.beq sz sz' && Nat.beq t t' with
    | true => eqCs cs ds (fitL vw T0 T cs ds)
    | false => none
  | .roc cs, .roc ds => eqCs cs ds (fitL vw T0 T cs ds)
  | .roc cs, .roi k xs => (intsK k cs).map fun ns => [ns = xs]
  | .roi k xs, .roi k' ys => match beqK k k' with
    | true => some [xs = ys]
    | false => none
  | .rowx sz n t, .rowx sz' n' t' => match Nat.beq sz sz' && Nat.beq t t' with
    | true => some (eqN false false n n')
    | false => none
  | .rowi k xs t, .rowi k' ys t' => match Nat.beq t t' && beqK k k' with
    | true => some [xs = ys]
    | false => none
  | .vals vs t, .vals us t' => match Nat.beq t t' with
    | true => some [vs = us]
    | false => none
  | .own cs t, .vals us t' => match Nat.beq t t' with
    | true => some [∀ V : Val, denL V cs = some us]
    | false => none
  | _, _ => none

theorem fitB0_ok {vw : Vw} {T0 : List (Nat × SB)} (hT : TabOK w0 M V T w) {l l0 : Nat} {B C : SB} {ps : List Prop} (hl : vw l0 = some (.lab l 0)) (hB : T l = some B) (h : fitB0 vw T0 T B C = some ps) (hp : ∀ q ∈ ps, q) :
    okB (seen vw V) w l0 C ∧ (∀ n, C.blk (seen vw V) l0 = some n → B.blk V l = some n) ∧ (C.owned = true → B.owned = true) := by
  have eβ : (seen vw V).β l0 = V.β l := by rw [(seen_at hl).1]; simp
  have eσ : (seen vw V).σ l0 = V.σ l := (seen_at hl).2
  obtain ⟨cs, hc, h2⟩ := hT.ok l B hB
  have rowL : ∀ {xs ds : List SV}, eqCs xs ds (fitL vw T0 T xs ds) = some ps → denL V xs = some cs → denL (seen vw V) ds = some cs := by
    intro xs ds h hx
    rcases eqCs_ok h hp with e | e
    · exact (e V (seen vw V)).trans hx
    · exact fitL_ok hT e hp _ hx
  cases C with
  | gone => exact ⟨⟨[], rfl, trivial⟩, (fun n hn => by cases hn), fun h => by cases h⟩
  | own ds t' =>
    cases B with
    | own es t =>
      simp only [fitB0] at h
      split at h
      case h_2 => cases h
      rename_i ht
      have ht := Nat.eq_of_beq_eq_true ht
      subst ht
      obtain ⟨b, hb, hh⟩ := h2
      exact ⟨⟨cs, rowL h hc, b, eβ.trans hb, hh⟩, fun n hn => by simpa [SB.blk, eβ] using hn, fun _ => rfl⟩
    | ints k xs t =>
      simp only [fitB0] at h
      split at h
      case h_2 => cases h
      rename_i hk
      cases h
      obtain ⟨e, ht⟩ := hp _ List.mem_cons_self
      subst e ht
      cases hc
      obtain ⟨b, hb, hh⟩ := h2
      exact ⟨⟨_, intsK_ok hk, b, eβ.trans hb, hh⟩, fun n hn => by simpa [SB.blk, eβ] using hn, fun _ => rfl⟩
    | _ => simp [fitB0] at h
  | ints k xs t' =>
    cases B with
    | own es t =>
      simp only [fitB0] at h
      split at h
      case h_2 => cases h
      rename_i hk
      cases h
      obtain ⟨e, ht⟩ := hp _ List.mem_cons_self
      subst e ht
      have e2 : some cs = some _ := hc.symm.trans (intsK_ok hk)
      cases e2
      obtain ⟨b, hb, hh⟩ := h2
      exact ⟨⟨_, rfl, b, eβ.trans hb, hh⟩, fun n hn => by simpa [SB.blk, eβ] using hn, fun _ => rfl⟩
    | ints k2 ys t =>
      simp only [fitB0] at h
      split at h
      case h_2 => cases h
      rename_i ht
      cases h
      obtain ⟨e, h3⟩ := hp _ List.mem_cons_self
      have h4 : _ = _ := of_decide_eq_true ht
      subst e h3 h4
      obtain ⟨b, hb, hh⟩ := h2
      exact ⟨⟨cs, hc, b, eβ.trans hb, hh⟩, fun n hn => by simpa [SB.blk, eβ] using hn, fun _ => rfl⟩
    | _ => simp [fitB0] at h
  | roc ds =>
    cases B with
    | own es t =>
      simp only [fitB0] at h
      obtain ⟨b, hb, hh⟩ := h2
      exact ⟨⟨cs, rowL h hc, b, 0, eβ.trans hb, .of hh, fun j u hj => by rw [cell_of_row w _ (0 + j) _ _ _ hh]; simpa using hj⟩, fun n hn => by simpa [SB.blk, eβ] using hn, fun h => by cases h⟩
    | ints k2 ys t =>
      simp only [fitB0, Option.map_eq_some_iff] at h
      obtain ⟨ns, hk, rfl⟩ := h
      have e := hp _ List.mem_cons_self
      subst e
      cases hc
      obtain ⟨b, hb, hh⟩ := h2
      exact ⟨⟨_, intsK_ok hk, b, 0, eβ.trans hb, .of hh, fun j u hj => by rw [cell_of_row w _ (0 + j) _ _ _ hh]; simpa using hj⟩, fun n hn => by simpa [SB.blk, eβ] using hn, fun h => by cases h⟩
    | roc es =>
      simp only [fitB0] at h
      obtain ⟨b, o, hb, hh⟩ := h2
      exact ⟨⟨cs, rowL h hc, b, o, eβ.trans hb, hh⟩, fun n hn => by simpa [SB.blk, eβ] using hn, fun h => by cases h⟩
    | _ => simp [fitB0] at h
  | roi k xs =>
    cases B with
    | own es t =>
      simp only [fitB0, Option.map_eq_some_iff] at h
      obtain ⟨ns, hk, rfl⟩ := h
      have e := hp _ List.mem_cons_self
      subst e
      have e2 : some cs = some _ := hc.symm.trans (intsK_ok hk)
      cases e2
      obtain ⟨b, hb, hh⟩ := h2
      exact ⟨⟨_, rfl, b, 0, eβ.trans hb, .of hh, fun j u hj => by rw [cell_of_row w _ (0 + j) _ _ _ hh]; simpa using hj⟩, fun n hn => by simpa [SB.blk, eβ] using hn, fun h => by cases h⟩
    | ints k2 ys t =>
      simp only [fitB0] at h
      split at h
      case h_2 => cases h
      rename_i ht
      cases h
      have e := hp _ List.mem_cons_self
      have h4 : _ = _ := of_decide_eq_true ht
      subst e h4
      cases hc
      obtain ⟨b, hb, hh⟩ := h2
      exact ⟨⟨_, rfl, b, 0, eβ.trans hb, .of hh, fun j u hj => by rw [cell_of_row w _ (0 + j) _ _ _ hh]; simpa using hj⟩, fun n hn => by simpa [SB.blk, eβ] using hn, fun h => by cases h⟩
    | roc es =>
      simp only [fitB0, Option.map_eq_some_iff] at h
      obtain ⟨ns, hk, rfl⟩ := h
      have e := hp _ List.mem_cons_self
      subst e
      have e2 : some cs = some _ := hc.symm.trans (intsK_ok hk)
      cases e2
      obtain ⟨b, o, hb, hh⟩ := h2
      exact ⟨⟨_, rfl, b, o, eβ.trans hb, hh⟩, fun n hn => by simpa [SB.blk, eβ] using hn, fun h => by cases h⟩
    | roi k2 ys =>
      simp only [fitB0] at h
      split at h
      case h_2 => cases h
      rename_i ht
      cases h
      have e := hp _ List.mem_cons_self
      have h4 : _ = _ := of_decide_eq_true ht
      subst e h4
      obtain ⟨b, o, hb, hh⟩ := h2
      exact ⟨⟨cs, hc, b, o, eβ.trans hb, hh⟩, fun n hn => by simpa [SB.blk, eβ] using hn, fun h => by cases h⟩
    | _ => simp [fitB0] at h
  | rowx z m t' =>
    cases B with
    | rowx z2 m2 t =>
      simp only [fitB0] at h
      split at h
      case h_2 => cases h
      rename_i ht
      simp only [Bool.and_eq_true] at ht
      cases h
      have h3 := Nat.eq_of_beq_eq_true ht.1
      have h4 := Nat.eq_of_beq_eq_true ht.2
      have e := eqN_ok hp
      subst h3 h4 e
      obtain ⟨v, us, hv, hh⟩ := h2
      exact ⟨⟨cs, hc, v, us, eσ.trans hv, hh⟩, fun n hn => by simpa [SB.blk, eσ] using hn, fun _ => rfl⟩
    | _ => simp [fitB0] at h
  | rowi k xs t' =>
    cases B with
    | rowi k2 ys t =>
      simp only [fitB0] at h
      split at h
      case h_2 => cases h
      rename_i ht
      simp only [Bool.and_eq_true] at ht
      cases h
      have e := hp _ List.mem_cons_self
      have h3 := Nat.eq_of_beq_eq_true ht.1
      have h4 : _ = _ := of_decide_eq_true ht.2
      subst e h3 h4
      obtain ⟨v, hv, hh⟩ := h2
      exact ⟨⟨cs, hc, v, eσ.trans hv, hh⟩, fun n hn => by simpa [SB.blk, eσ] using hn, fun _ => rfl⟩
    | _ => simp [fitB0] at h
  | vals us t' =>
    cases B with
    | own es t =>
      simp only [fitB0] at h
      split at h
      case h_2 => cases h
      rename_i ht
      cases h
      have e := hp _ List.mem_cons_self
      have h3 := Nat.eq_of_beq_eq_true ht
      subst h3
      have : some cs = some us := hc.symm.trans (e V)
      cases this
      obtain ⟨b, hb, hh⟩ := h2
      exact ⟨⟨_, rfl, b, eβ.trans hb, hh⟩, fun n hn => by simpa [SB.blk, eβ] using hn, fun _ => rfl⟩
    | vals vs t =>
      simp only [fitB0] at h
      split at h
      case h_2 => cases h
      rename_i ht
      cases h
      have e := hp _ List.mem_cons_self
      have h3 := Nat.eq_of_beq_eq_true ht
      subst e h3
      obtain ⟨b, hb, hh⟩ := h2
      exact ⟨⟨cs, hc, b, eβ.trans hb, hh⟩, fun n hn => by simpa [SB.blk, eβ] using hn, fun _ => rfl⟩
    | _ => simp [fitB0] at h
  | row z ds t' =>
    cases B with
    | row z2 es t =>
      simp only [fitB0] at h
      split at h
      case h_2 => cases h
      rename_i ht
      simp only [Bool.and_eq_true] at ht
      have h3 := Nat.eq_of_beq_eq_true ht.1
      have h4 := Nat.eq_of_beq_eq_true ht.2
      subst h3 h4
      obtain ⟨b, cap, cur, hb, hσ, hh⟩ := h2
      exact ⟨⟨cs, rowL h hc, b, cap, cur, eβ.trans hb, eσ.trans hσ, hh⟩, fun n hn => by simpa [SB.blk, eβ] using hn, fun _ => rfl⟩
    | _ => simp [fitB0] at h
  | rov k xs => cases B <;> simp [fitB0] at h

/-- A label of a call's, seen. -/
def fitB (vw : Vw) (T0 : List (Nat × SB)) (T : Tab) (l0 : Nat) (B0 : SB) : Option (List Prop) := match B0 with
  | .rov k ys => match vw l0 with
    | some (.val u) => match seqRo T k u with
      | some (ob, xs) => some ((xs = ys) :: ob)
      | none => none
    | _ => none
  | B0 => match vw l0 with
    | some (.lab l 0) => match T l with
      | some B => fitB0 vw T0 T B B0
      | none => none
    | _ => none

def srcLab (vw : Vw) (l0 : Nat) : Option Nat := match vw l0 with
  | some (.lab l _) => some l
  | some (.val u) => labOf u
  | none => none

theorem fitB_ok {vw : Vw} {T0 : List (Nat × SB)} (hT : TabOK w0 M V T w) {l0 : Nat} {C : SB} {ps : List Prop} (h : fitB vw T0 T l0 C = some ps) (hp : ∀ q ∈ ps, q) (hv : ∀ u, vw l0 = some (.val u) → ∃ x, den V u = some x) :
    okB (seen vw V) w l0 C ∧ (∀ n, C.blk (seen vw V) l0 = some n → ∃ l B, srcLab vw l0 = some l ∧ T l = some B ∧ B.blk V l = some n) ∧ (C.owned = true → ∃ l B, vw l0 = some (.lab l 0) ∧ T l = some B ∧ B.owned = true) := by
  have rest : (match vw l0 with
    | some (.lab l 0) => match T l with
      | some B => fitB0 vw T0 T B C
      | none => none
    | _ => none) = some ps → okB (seen vw V) w l0 C ∧ (∀ n, C.blk (seen vw V) l0 = some n → ∃ l B, srcLab vw l0 = some l ∧ T l = some B ∧ B.blk V l = some n) ∧ (C.owned = true → ∃ l B, vw l0 = some (.lab l 0) ∧ T l = some B ∧ B.owned = true) := by
    intro h
    split at h
    case h_2 => cases h
    rename_i l hl
    split at h
    case h_2 => cases h
    rename_i B hB
    obtain ⟨r1, r2, r3⟩ := fitB0_ok hT hl hB h hp
    exact ⟨r1, fun n hn => ⟨l, B, by simp [srcLab, hl], hB, r2 n hn⟩, fun ho => ⟨l, B, hl, hB, r3 ho⟩⟩
  cases C with
  | rov k ys =>
    simp only [fitB] at h
    split at h
    case h_2 => cases h
    rename_i u hu
    split at h
    case h_2 => cases h
    rename_i ob xs hs
    cases h
    have e : xs = ys := hp _ List.mem_cons_self
    subst e
    obtain ⟨x, hx⟩ := hv u hu
    obtain ⟨h1, h2⟩ := seqRo_ok hT hx hs (fun q hq => hp q (List.mem_cons_of_mem _ hq))
    have hσ : (seen vw V).σ l0 = some x := (seen_val hu).trans hx
    refine ⟨⟨_, rfl, x, hσ, h1⟩, fun n hn => ?_, fun h => by cases h⟩
    simp only [SB.blk, hσ, Option.bind_some] at hn
    obtain ⟨l, B, g1, g2, g3⟩ := h2 n hn
    exact ⟨l, B, by simp [srcLab, hu, g1], g2, g3⟩
  | own => exact rest h
  | ints => exact rest h
  | roc => exact rest h
  | roi => exact rest h
  | rowi => exact rest h
  | rowx => exact rest h
  | row => exact rest h
  | vals => exact rest h
  | gone => exact rest h

def fitT (vw : Vw) (T0 : List (Nat × SB)) (T : Tab) : List (Nat × SB) → Option (List Prop)
  | [] => some []
  | (l0, B0) :: r => match fitB vw T0 T l0 B0, fitT vw T0 T r with
    | some a, some b => some (a ++ b)
    | _, _ => none
theorem fitT_at {vw : Vw} {T0 : List (Nat × SB)} : ∀ {r : List (Nat × SB)} {ps : List Prop}, fitT vw T0 T r = some ps → (∀ q ∈ ps, q) → ∀ l0 B0, look l0 r = some B0 → ∃ ps', fitB vw T0 T l0 B0 = some ps' ∧ ∀ q ∈ ps', q
  | [], _, _, _, l0, B0, hl => by cases hl
  | (k, C) :: r, ps, h, hp, l0, B0, hl => by
    simp only [fitT] at h
    split at h
    case h_2 => cases h
    rename_i a b ha hb
    cases h
    by_cases e : k = l0
    · subst e; rw [look_cons_eq] at hl; cases hl; exact ⟨a, ha, mem_l hp⟩
    · rw [look_cons_ne e] at hl; exact fitT_at hb (mem_r hp) l0 B0 hl

def optB : Option Nat → Option Nat → Bool
  | some a, some b => Nat.beq a b
  | _, _ => false

/-- What is written lies nowhere else. -/
def distOK (vw : Vw) (T0 : List (Nat × SB)) : Bool := T0.all fun p => match p.2.owned with
  | false => true
  | true => T0.all fun q => Nat.beq p.1 q.1 || !optB (srcLab vw p.1) (srcLab vw q.1)

/-- Where a call's name comes from: an address; an argument; a part of one. -/
inductive Src0 where
  | lab (l off : Nat)
  | arg (i : Nat)
  | sub (i j : Nat)
  | cell (l i : Nat)

def srcOf (vs : List SV) (T : Tab) : Src0 → Option Src
  | .cell l i => match T l with
    | some (.own cs _) => (cs[i]?).map .val
    | some (.roc cs) => (cs[i]?).map .val
    | some (.row _ cs _) => (cs[i]?).map .val
    | _ => none
  | .lab l off => some (.lab l off)
  | .arg i => (vs[i]?).map .val
  | .sub i j => match vs[i]? with
    | some (.agg us) => (us[j]?).map .val
    | _ => none
def srcL (vs : List SV) (T : Tab) : List (Nat × Src0) → Option (List (Nat × Src))
  | [] => some []
  | (l0, q) :: r => match srcOf vs T q, srcL vs T r with
    | some s, some t => some ((l0, s) :: t)
    | _, _ => none

theorem srcL_den (hT : TabOK w0 M V T w) {vs : List SV} {xs : List Value} (hx : denL V vs = some xs) : ∀ {vl : List (Nat × Src0)} {sl : List (Nat × Src)}, srcL vs T vl = some sl → ∀ l0 u, look l0 sl = some (.val u) → ∃ x, den V u = some x
  | [], sl, h, l0, u, hl => by simp only [srcL, Option.some.injEq] at h; subst h; cases hl
  | (k, q) :: r, sl, h, l0, u, hl => by
    simp only [srcL] at h
    split at h
    case h_2 => cases h
    rename_i s t hs ht
    cases h
    by_cases e : k = l0
    · subst e
      rw [look_cons_eq] at hl
      cases hl
      cases q with
      | lab l off => cases hs
      | cell l i =>
        simp only [srcOf] at hs
        split at hs
        · rename_i cs ty hB
          simp only [Option.map_eq_some_iff] at hs
          obtain ⟨v, hv, e⟩ := hs
          cases e
          obtain ⟨ys, hy, _⟩ := hT.ok l _ hB
          obtain ⟨x, _, h3⟩ := denL_get hy i u hv
          exact ⟨x, h3⟩
        · rename_i cs hB
          simp only [Option.map_eq_some_iff] at hs
          obtain ⟨v, hv, e⟩ := hs
          cases e
          obtain ⟨ys, hy, _⟩ := hT.ok l _ hB
          obtain ⟨x, _, h3⟩ := denL_get hy i u hv
          exact ⟨x, h3⟩
        · rename_i sz cs ty hB
          simp only [Option.map_eq_some_iff] at hs
          obtain ⟨v, hv, e⟩ := hs
          cases e
          obtain ⟨ys, hy, _⟩ := hT.ok l _ hB
          obtain ⟨x, _, h3⟩ := denL_get hy i u hv
          exact ⟨x, h3⟩
        · cases hs
      | arg i =>
        simp only [srcOf, Option.map_eq_some_iff] at hs
        obtain ⟨v, hv, e⟩ := hs
        cases e
        obtain ⟨x, _, h2⟩ := denL_get hx i u hv
        exact ⟨x, h2⟩
      | sub i j =>
        simp only [srcOf] at hs
        split at hs
        case h_2 => cases hs
        rename_i us hv
        simp only [Option.map_eq_some_iff] at hs
        obtain ⟨v, hv2, e⟩ := hs
        cases e
        obtain ⟨x, _, h2⟩ := denL_get hx i _ hv
        simp only [den, Option.map_eq_some_iff] at h2
        obtain ⟨ys, hy, _⟩ := h2
        obtain ⟨x, _, h3⟩ := denL_get hy j u hv2
        exact ⟨x, h3⟩
    · rw [look_cons_ne e] at hl
      exact srcL_den hT hx ht l0 u hl

/-- A call in its plainest form. -/
structure Canon where
  vs0 : List SV
  T0 : List (Nat × SB)
  vl : List (Nat × Src0)
  e0 : Eff
  conds : List Prop := []

def vwOf (gl : List (Nat × Nat)) (sl : List (Nat × Src)) : Vw := fun l0 => match look l0 sl with
  | some q => some q
  | none => match gl.any fun p => Nat.beq p.2 l0 with
    | true => some (.lab l0 0)
    | false => none

def canonCk (gl : List (Nat × Nat)) (F0 : Nat) (c : Canon) (vw : Vw) : Bool :=
  distOK vw c.T0 && (c.vl.all (fun p => Nat.blt p.1 F0 && !gl.any fun q => Nat.beq q.2 p.1) && (gl.all (fun q => Nat.blt q.2 F0) &&
    (c.T0.all (fun p => match p.2.owned with
      | false => true
      | true => Nat.blt p.1 F0 && someB (look p.1 c.e0.wr)) && (Nat.ble c.e0.new.length 8 && c.e0.wr.all fun p => Nat.blt p.1 F0))))

/-- A summary, out of calls in their plainest form: 'dec' finds that of a call. -/
def canonS (gl : List (Nat × Nat)) (F0 : Nat) (dec : List SV → Tab → Option Canon) : Sum := fun vs T lab _ =>
  match dec vs T with
  | none => none
  | some c => match srcL vs T c.vl with
    | none => none
    | some sl => match fitL (vwOf gl sl) c.T0 T vs c.vs0, fitT (vwOf gl sl) c.T0 T c.T0, backE (rhoV (vwOf gl sl) F0 lab) c.e0, canonCk gl F0 c (vwOf gl sl) with
      | some p, some q, some e, true => some { obl := c.conds ++ (p ++ q), val := e.val, new := e.new, wr := e.wr }
      | _, _, _, _ => none

theorem look_all {α : Type} {f : Nat × α → Bool} {l : Nat} {v : α} {r : List (Nat × α)} (h : r.all f = true) (hl : look l r = some v) : f (l, v) = true := List.all_eq_true.1 h _ (look_mem hl)

theorem look_src {vs : List SV} {T : Tab} : ∀ {vl : List (Nat × Src0)} {sl : List (Nat × Src)}, srcL vs T vl = some sl → ∀ l0 s, look l0 sl = some s → ∃ q, (l0, q) ∈ vl
  | [], sl, h, l0, s, hl => by simp only [srcL, Option.some.injEq] at h; subst h; cases hl
  | (k, q) :: r, sl, h, l0, s, hl => by
    simp only [srcL] at h
    split at h
    case h_2 => cases h
    rename_i s' t hs ht
    cases h
    by_cases e : k = l0
    · subst e; exact ⟨q, List.mem_cons_self⟩
    · rw [look_cons_ne e] at hl
      obtain ⟨q, hq⟩ := look_src ht l0 s hl
      exact ⟨q, List.mem_cons_of_mem _ hq⟩

theorem optB_ok {a b : Option Nat} {n : Nat} (h : optB a b = false) (ha : a = some n) : b ≠ some n := by
  subst ha
  intro hb
  subst hb
  simp [optB] at h

theorem canonS_ok {P : Program} {Γ : Env} {f : FuncId} {gl : List (Nat × Nat)} {F0 : Nat} {dec : List SV → Tab → Option Canon} (hgl : Γ.glob = gl)
    (h : ∀ vs T c, dec vs T = some c → (∀ q ∈ c.conds, q) → CallOK P Γ f c.vs0 (fun l => look l c.T0) F0 F0 c.e0) : SumOK P Γ f (canonS gl F0 dec) := by
  refine SumOK.of_calls fun vs T lab F e he ho => ?_
  unfold canonS at he
  split at he
  case h_1 => cases he
  rename_i c hc
  split at he
  case h_1 => cases he
  rename_i sl hsl
  split at he
  case h_2 => cases he
  rename_i p q e1 hp hq hb hck
  cases he
  have hcc := mem_l ho
  have hpp := mem_l (mem_r ho)
  have hqq := mem_r (mem_r ho)
  unfold canonCk at hck
  simp only [Bool.and_eq_true] at hck
  obtain ⟨k1, k2, k3, k4, k5, k6⟩ := hck
  have hlow : ∀ l0 s, vwOf gl sl l0 = some s → l0 < F0 := by
    intro l0 s hs
    unfold vwOf at hs
    split at hs
    · rename_i q0 hl0
      obtain ⟨q1, hm⟩ := look_src hsl l0 _ hl0
      have := List.all_eq_true.1 k2 _ hm
      simp only [Bool.and_eq_true] at this
      simpa [Nat.blt_eq] using this.1
    · split at hs
      · rename_i hany
        simp only [List.any_eq_true] at hany
        obtain ⟨p, hm, he⟩ := hany
        have := List.all_eq_true.1 k3 p hm
        have he := Nat.eq_of_beq_eq_true he
        rw [← he]
        simpa [Nat.blt_eq] using this
      · cases hs
  have key : CallOK P Γ f vs T lab F e1 := by
    refine canon_ok (vw := vwOf gl sl) (h vs T c hc hcc) (fun l0 hl => ?_) (fun n l hl => ?_) (fun w0 M V w xs hT hx => ?_) (fun l0 B0 hl ho => ?_) (Nat.le_of_ble_eq_true k5) (fun l0 B0 hl => ?_) hb
    · cases hv : vwOf gl sl l0 with
      | none => rfl
      | some s => have := hlow l0 s hv; omega
    · rw [hgl] at hl
      have hm := look_mem hl
      unfold vwOf
      split
      · rename_i q0 hl0
        obtain ⟨q1, hm1⟩ := look_src hsl l _ hl0
        have := List.all_eq_true.1 k2 _ hm1
        simp only [Bool.and_eq_true, Bool.not_eq_true'] at this
        have h2 := this.2
        exfalso
        have : (gl.any fun q => Nat.beq q.2 l) = true := List.any_eq_true.2 ⟨_, hm, Nat.beq_refl l⟩
        rw [h2] at this
        cases this
      · have : (gl.any fun p => Nat.beq p.2 l) = true := List.any_eq_true.2 ⟨_, hm, Nat.beq_refl l⟩
        rw [this]
    · have hden : ∀ l0 u, vwOf gl sl l0 = some (.val u) → ∃ x, den V u = some x := by
        intro l0 u hu
        unfold vwOf at hu
        split at hu
        · rename_i q0 hl0; cases hu; exact srcL_den hT hx hsl l0 u hl0
        · split at hu
          · cases hu
          · cases hu
      have at0 : ∀ l0 B0, look l0 c.T0 = some B0 → okB (seen (vwOf gl sl) V) w l0 B0 ∧ (∀ n, B0.blk (seen (vwOf gl sl) V) l0 = some n → ∃ l B, srcLab (vwOf gl sl) l0 = some l ∧ T l = some B ∧ B.blk V l = some n) ∧ (B0.owned = true → ∃ l B, vwOf gl sl l0 = some (.lab l 0) ∧ T l = some B ∧ B.owned = true) := by
        intro l0 B0 hl
        obtain ⟨ps', h1, h2⟩ := fitT_at hq hqq l0 B0 hl
        exact fitB_ok hT h1 h2 (hden l0)
      refine ⟨fun ys hy => fitL_ok hT hp hpp ys hy, fun l0 B0 hl => (at0 l0 B0 hl).1, fun l0 B0 l1 B1 n hne hl hl1 ho hn hn1 => ?_, fun l0 B0 n hl ho hn => ?_⟩
      · obtain ⟨la, Ba, a1, a2, a3⟩ := (at0 l0 B0 hl).2.1 n hn
        obtain ⟨lb, Bb, b1, b2, b3⟩ := (at0 l1 B1 hl1).2.1 n hn1
        obtain ⟨lc, Bc, c1, c2, c3⟩ := (at0 l0 B0 hl).2.2 ho
        have e : la = lc := by
          have : srcLab (vwOf gl sl) l0 = some lc := by simp [srcLab, c1]
          rw [a1] at this
          exact Option.some.inj this
        subst e
        rw [a2] at c2
        cases c2
        have hd := look_all k1 hl
        simp only [ho] at hd
        have hd2 := look_all hd hl1
        simp only [Bool.or_eq_true, Bool.not_eq_true'] at hd2
        rcases hd2 with hd2 | hd2
        · exact hne (Nat.eq_of_beq_eq_true hd2)
        · have hne2 : la ≠ lb := fun e => optB_ok hd2 a1 (by rw [b1, e])
          exact hT.dist la Ba lb Bb n hne2 a2 b2 c3 a3 b3
      · obtain ⟨la, Ba, a1, a2, a3⟩ := (at0 l0 B0 hl).2.1 n hn
        obtain ⟨lc, Bc, c1, c2, c3⟩ := (at0 l0 B0 hl).2.2 ho
        have e : la = lc := by
          have : srcLab (vwOf gl sl) l0 = some lc := by simp [srcLab, c1]
          rw [a1] at this
          exact Option.some.inj this
        subst e
        rw [a2] at c2
        cases c2
        exact ⟨la, Ba, c1, a2, c3, a3⟩
    · have := look_all k4 hl
      simp only [ho, Bool.and_eq_true] at this
      refine ⟨by simpa [Nat.blt_eq] using this.1, fun hn => ?_⟩
      rw [hn] at this
      cases this.2
    · have := look_all k6 hl
      simpa [Nat.blt_eq] using this
  exact key
end
end Go.Proofs.YtdhombdiakjdhaaGreatDoor.Sx
end
section
open Go
namespace Go.Proofs.YtdhombdiakjdhaaGreatDoor.Sx

/-- A temporary that holds a nil slice holds a slice that may grow. -/
noncomputable def nilB (t : Nat) (k : IntKind) (ty : TypeId) (s : St) : Option St := match s.g.get t with
  | some (.raw (.slice none 0 0)) => match Tr.put (.buf s.nx) 64 s.g t, Tr.put (SB.rowi k [] ty) 64 s.tb s.nx with
    | some g, some tb => some { s with g := g, tb := tb, nx := s.nx + 1 }
    | _, _ => none
  | _ => none

noncomputable def nilBs : List (Nat × IntKind × TypeId) → St → Option St
  | [], s => some s
  | (t, k, ty) :: r, s => match nilB t k ty s with
    | some s => nilBs r s
    | none => none

section
variable {P : Program} {Γ : Env} {w0 : World} {M : Nat → Prop} {B : Tab} {N F0 : Nat} {V0 : Val}

theorem Inv.nilB {t : Nat} {k : IntKind} {ty : TypeId} {s s' : St} (h : nilB t k ty s = some s') {V : Val} {a : Act} {w : World} (hi : Inv P Γ w0 M B N F0 V0 s V a w) : ∃ V', Inv P Γ w0 M B N F0 V0 s' V' a w := by
  unfold Sx.nilB at h
  split at h
  case h_2 => cases h
  rename_i hg
  split at h
  case h_2 => cases h
  rename_i g tb h1 h2
  cases h
  have hf : V.fresh s.nx := hi.top.fresh
  have hext := Val.putσ_ext hf s.nx (Nat.le_refl _) (by omega) (.slice none 0 0)
  have hT : St.T B { s with g := g, tb := tb, nx := s.nx + 1 } = fun l => if l = s.nx then some (.rowi k [] ty) else s.T B l := by
    funext l
    simp only [St.T, Tr.get_put _ _ _ _ _ h2 l]
    by_cases e : l = s.nx
    · simp [e]
    · simp [e]
  refine ⟨V.putσ s.nx (.slice none 0 0), fun m v hv => ?_, fun d v hv => ?_, hi.size, ?_, ?_, fun n l hl => hext.1.1 _ _ (hi.glob n l hl), fun l hl => ?_, V0.le_trans hi.le hext.1, fun l hl => ?_, fun l hl hn => ?_, ?_, fun l hl => ?_⟩
  · have hv : g.get m = some v := hv
    rw [Tr.get_put _ _ _ _ _ h1 m] at hv
    split at hv
    · rename_i e
      cases hv
      have := hi.tmp t _ hg
      simp only [den, Option.some.injEq] at this
      rw [e, ← this]
      simp [den, Val.putσ]
    · exact den_mono hext.1 (hi.tmp m v hv)
  · have hv : g.get d = some v := hv
    rw [Tr.get_put _ _ _ _ _ h1 d] at hv
    split at hv
    · rename_i e; subst e; exact hi.keys d _ hg
    · exact hi.keys d v hv
  · obtain ⟨xs, h3, h4⟩ := hi.defers
    exact ⟨xs, denL_mono hext.1 h3, h4⟩
  · rw [hT]
    refine hi.tab.step (N := fun l => if l = s.nx then some (.rowi k [] ty) else none) hext.1 (fun l C hl => ?_) (fun l C hl => ?_) (fun l C n hl hn => ?_) (fun l C l' C' n _ hl _ _ hn => ?_) (Nat.le_refl _) (fun _ _ _ => rfl) rfl rfl rfl
    · by_cases e : l = s.nx
      · left; simpa [e] using hl
      · right; simpa [e] using hl
    · by_cases e : l = s.nx
      · simp only [if_pos e, Option.some.injEq] at hl
        subst hl e
        exact ⟨[], rfl, .slice none 0 0, by simp [Val.putσ], rfl, .inl ⟨rfl, rfl⟩⟩
      · simp [e] at hl
    · by_cases e : l = s.nx
      · simp only [if_pos e, Option.some.injEq] at hl
        subst hl e
        simp [SB.blk, Val.putσ, Value.ownBlock] at hn
      · simp [e] at hl
    · by_cases e : l = s.nx
      · simp only [if_pos e, Option.some.injEq] at hl
        subst hl e
        simp [SB.blk, Val.putσ, Value.ownBlock] at hn
      · simp [e] at hl
  · have hl : s.nx + 1 ≤ l := hl
    obtain ⟨e1, e2⟩ := hi.top l (by omega)
    exact ⟨e1, by simp only [Val.putσ]; rw [if_neg (by omega)]; exact e2⟩
  · have hne : l ≠ s.nx := by have := hi.nx; omega
    refine ⟨(hi.low l hl).1, ?_⟩
    simp only [Val.putσ, if_neg hne]
    exact (hi.low l hl).2
  · have hne : l ≠ s.nx := by have := hi.nx; omega
    show tb.get l = none
    rw [Tr.get_put _ _ _ _ _ h2 l, if_neg hne]
    exact hi.ch l hl hn
  · have := hi.nx
    show F0 ≤ s.nx + 1
    omega
  · have hl : s.nx + 1 ≤ l := hl
    rw [hT]
    simp only
    rw [if_neg (by omega)]
    exact hi.hi l (by omega)

theorem Inv.nilBs : ∀ {l : List (Nat × IntKind × TypeId)} {s s' : St}, nilBs l s = some s' → ∀ {V : Val} {a : Act} {w : World}, Inv P Γ w0 M B N F0 V0 s V a w → ∃ V', Inv P Γ w0 M B N F0 V0 s' V' a w
  | [], s, s', h, V, a, w, hi => by simp only [Sx.nilBs, Option.some.injEq] at h; subst h; exact ⟨V, hi⟩
  | (t, k, ty) :: r, s, s', h, V, a, w, hi => by
    simp only [Sx.nilBs] at h
    split at h
    · rename_i s1 h1
      obtain ⟨V1, hi1⟩ := hi.nilB h1
      exact Inv.nilBs h hi1
    · cases h

/-- A run, nil slices made such that may grow, and its end in other words. -/
noncomputable def toN (F0 : Nat) (B : Tab) (nils : List (Nat × IntKind × TypeId)) (labs : List Nat) (gs : List (Nat × SV)) (tb : List (Nat × SB)) (nx : Nat) (ws : List Nat) (df : List SV) (r : Option Cfg) : Option (Cf × List Fr × List Prop) := match r with
  | some r => match nilBs nils r.st with
    | some s => toS F0 B labs gs tb nx ws df (some ⟨r.cf, r.fr, s⟩)
    | none => none
  | none => none

theorem nilBs_ob : ∀ {l : List (Nat × IntKind × TypeId)} {s s' : St}, nilBs l s = some s' → s'.ob = s.ob
  | [], s, s', h => by simp only [nilBs, Option.some.injEq] at h; subst h; rfl
  | (t, k, ty) :: r, s, s', h => by
    simp only [nilBs] at h
    split at h
    · rename_i s1 h1
      rw [nilBs_ob h]
      unfold nilB at h1
      split at h1
      · split at h1
        · cases h1; rfl
        · cases h1
      · cases h1
    · cases h

theorem G.toN (hty : TyOK P Γ) (hsum : SumsOK P Γ) (hmix : P.follows .mixedOrders = true) (hb : Base Γ B F0 V0) {stops : List Nat} {lf n : Nat} {cf cf' : Cf} {K K' : List Fr} {s : St} (hs : List Bool) {nils : List (Nat × IntKind × TypeId)} {labs : List Nat} {gs : List (Nat × SV)} {tb : List (Nat × SB)} {nx : Nat} {ws : List Nat} {df : List SV} {ps : List Prop} {Q : Exit → Act → World → Prop}
    (h : toN F0 B nils labs gs tb nx ws df (mrun Γ B F0 N stops lf n cf K (s.hint hs)) = some (cf', K', ps)) (hp : ∀ q ∈ ps, q) (hG : G P Γ w0 M B N F0 V0 cf' K' (stOf gs tb nx ws df) Q) : G P Γ w0 M B N F0 V0 cf K s Q := by
  unfold Sx.toN at h
  split at h
  case h_2 => cases h
  rename_i r hr
  split at h
  case h_2 => cases h
  rename_i s0 h0
  unfold toS at h
  simp only at h
  split at h
  case h_2 => cases h
  rename_i s1 h1
  split at h
  case h_2 => cases h
  rename_i ps' h2
  cases h
  have hob := nilBs_ob h0
  have hrun : G P Γ w0 M B N F0 V0 cf K (s.hint hs) Q := by
    refine G.run hty hsum hmix hr (fun q hq => hp q (List.mem_append_left _ (hob ▸ hq))) ?_
    intro V a w hi
    obtain ⟨V1, hi1⟩ := Inv.nilBs h0 hi
    obtain ⟨V2, hi2⟩ := hi1.norm hb h1
    exact hG V2 a w (hi2.cast hb h2 (mem_r hp))
  intro V a w hi
  exact hrun V a w (hi.hints s.ob hs)

mutual
/-- Which label stands where another one is to stand. -/
def pairV : SV → SV → List (Nat × Nat)
  | .ptr l _ _, .ptr l' _ _ => [(l', l)]
  | .slc l _ _ _ _, .slc l' _ _ _ _ => [(l', l)]
  | .slcR l _ _ _, .slcR l' _ _ _ => [(l', l)]
  | .buf l, .buf l' => [(l', l)]
  | .bptr l _, .bptr l' _ => [(l', l)]
  | .bslc l _ _, .bslc l' _ _ => [(l', l)]
  | .ros l _, .ros l' _ => [(l', l)]
  | .ifc _ v, .ifc _ v' => pairV v v'
  | .agg vs, .agg us => pairL vs us
  | .tup vs, .tup us => pairL vs us
  | .fn _ xs ys, .fn _ us vs => pairL xs us ++ pairL ys vs
  | _, _ => []
def pairL : List SV → List SV → List (Nat × Nat)
  | v :: r, u :: t => pairV v u ++ pairL r t
  | _, _ => []
end
def pairG (g : Nat → Option SV) : List (Nat × SV) → List (Nat × Nat)
  | [] => []
  | (t, u) :: r => match g t with
    | some v => pairV v u ++ pairG g r
    | none => pairG g r
def pairB (g : Nat → Option SB) (ps : List (Nat × Nat)) : List (Nat × SB) → List (Nat × Nat)
  | [] => []
  | (l, B) :: r => match B, look l ps with
    | .own us _, some k => match g k with
      | some (.own vs _) => pairL vs us ++ pairB g ps r
      | _ => pairB g ps r
    | .own us _, none => match g l with
      | some (.own vs _) => pairL vs us ++ pairB g ps r
      | _ => pairB g ps r
    | _, _ => pairB g ps r
def pairB0 (g : Nat → Option SB) (ps : List (Nat × Nat)) : List (Nat × SB) → List (Nat × Nat)
  | [] => []
  | (l, B) :: r => match B, look l ps with
    | .own us _, some k => match g k with
      | some (.own vs _) => pairL vs us ++ pairB0 g ps r
      | _ => pairB0 g ps r
    | _, _ => pairB0 g ps r
def labsL2 (ps : List (Nat × Nat)) (l : Nat) : Nat → List Nat
  | 0 => []
  | n + 1 => (look l ps).getD 0 :: labsL2 ps (l + 1) n
/-- The labels that are to be named anew, in order. -/
noncomputable def labsA (F0 : Nat) (gs : List (Nat × SV)) (tb : List (Nat × SB)) (nx : Nat) (s : St) : List Nat :=
  let p1 := pairG s.g.get gs
  let p2 := p1 ++ pairB0 s.tb.get p1 tb
  let p3 := p2 ++ pairB0 s.tb.get p2 tb
  let p4 := p3 ++ pairB s.tb.get p3 tb
  labsL2 p4 F0 (nx - F0)

noncomputable def toA (F0 : Nat) (B : Tab) (nils : List (Nat × IntKind × TypeId)) (gs : List (Nat × SV)) (tb : List (Nat × SB)) (nx : Nat) (ws : List Nat) (df : List SV) (r : Option Cfg) : Option (Cf × List Fr × List Prop) := match r with
  | some r => match nilBs nils r.st with
    | some s => toN F0 B nils (labsA F0 gs tb nx s) gs tb nx ws df (some r)
    | none => none
  | none => none

/-- RUN, and go on from the state as it is said. -/
theorem G.toA (hty : TyOK P Γ) (hsum : SumsOK P Γ) (hmix : P.follows .mixedOrders = true) (hb : Base Γ B F0 V0) {stops : List Nat} {lf n : Nat} {cf cf' : Cf} {K K' : List Fr} {s : St} (hs : List Bool) {nils : List (Nat × IntKind × TypeId)} {gs : List (Nat × SV)} {tb : List (Nat × SB)} {nx : Nat} {ws : List Nat} {df : List SV} {ps : List Prop} {Q : Exit → Act → World → Prop}
    (h : toA F0 B nils gs tb nx ws df (mrun Γ B F0 N stops lf n cf K (s.hint hs)) = some (cf', K', ps)) (hp : ∀ q ∈ ps, q) (hG : G P Γ w0 M B N F0 V0 cf' K' (stOf gs tb nx ws df) Q) : G P Γ w0 M B N F0 V0 cf K s Q := by
  unfold Sx.toA at h
  split at h
  case h_2 => cases h
  rename_i r hr
  split at h
  case h_2 => cases h
  rename_i s0 h0
  exact G.toN hty hsum hmix hb hs (stops := stops) (lf := lf) (n := n) (by rw [hr]; exact h) hp hG

theorem G.roundA (hty : TyOK P Γ) (hsum : SumsOK P Γ) (hmix : P.follows .mixedOrders = true) (hb : Base Γ B F0 V0) {stops : List Nat} {lf n : Nat} {cf : Cf} {K1 K : List Fr} {s : St} (hs : List Bool) {nils : List (Nat × IntKind × TypeId)} {gs : List (Nat × SV)} {tb : List (Nat × SB)} {nx : Nat} {ws : List Nat} {df : List SV} {ps : List Prop} {Q : Exit → Act → World → Prop} {S : Nat → St → Prop} {r : Nat}
    (h : Sx.toA F0 B nils gs tb nx ws df (mrun Γ B F0 N stops lf n cf K1 (s.hint hs)) = some (.at .normal, [], ps)) (hp : ∀ q ∈ ps, q) (r' : Nat) (hlt : r' < r) (hS : S r' (stOf gs tb nx ws df)) :
    G P Γ w0 M B N F0 V0 cf K1 s (Exit.then (fun a w => ∃ r', r' < r ∧ ∃ s', S r' s' ∧ ∃ V, Inv P Γ w0 M B N F0 V0 s' V a w) (KQ P K Q)) :=
  G.toA hty hsum hmix hb hs h hp (G.again fun V _ _ hi => ⟨r', hlt, _, hS, V, hi⟩)
end
end Go.Proofs.YtdhombdiakjdhaaGreatDoor.Sx
end
section
open Go
namespace Go.Proofs.YtdhombdiakjdhaaGreatDoor.Sx

theorem setSame {α : Type} (tm : Array α) (t : Nat) (d : α) : tm.setIfInBounds t (tm.getD t d) = tm := by
  apply Array.ext
  · simp
  · intro i h1 h2
    rw [Array.getElem_setIfInBounds (by simpa using h1)]
    split
    · rename_i e; subst e; simp [Array.getD_eq_getD_getElem?, h2]
    · rfl

theorem Act.put_same (a : Act) (t : Tmp) : a.put (some t) (a.eval (.tmp t)) = a := by
  obtain ⟨tm, df⟩ := a
  show Act.mk (tm.setIfInBounds t (tm.getD t undef)) df = _
  rw [setSame]

section
variable {w0 w : World} {M : Nat → Prop} {V : Val} {T : Tab} {lab : Nat}

theorem TabOK.close (h : TabOK w0 M V T w) (hf : V.fresh lab) (hlab : ∀ k, lab ≤ k → T k = none) {l cap n m : Nat} {cells : List SV} {el : TypeId} (hl : T l = some (.own cells el)) (hc : cells.length = cap) (hm : m ≤ cap) (hcap : cap ≤ 1000000) {lb : Nat} {cs : List SV} {ty : TypeId} {i : Nat}
    (hb : T lb = some (.own cs ty)) (hi : cs[i]? = some (.slc l true 0 n cap)) (hne : l ≠ lb) (v : SV) :
    ∃ V', V.ext lab V' ∧ TabOK w0 M V' (upd T lab { val := v, new := [.row 1 (cells.take m) el], wr := [(l, .gone), (lb, .own (cs.set i (.slcR lab 0 n 0)) ty)] }) w := by
  obtain ⟨us, hus, b, hβ, hh⟩ := h.ok l _ hl
  obtain ⟨xs, hxs, b2, hβ2, hh2⟩ := h.ok lb _ hb
  have hlt : l < lab := Nat.lt_of_not_le fun q => by rw [hlab l q] at hl; cases hl
  have hltb : lb < lab := Nat.lt_of_not_le fun q => by rw [hlab lb q] at hb; cases hb
  have hext : V.ext lab ((V.put lab (b, 0)).putσ lab (.int .i64 (cap : Nat))) := by
    have h1 := Val.put_ext hf lab (Nat.le_refl _) (by omega) (b, 0)
    refine ⟨⟨fun k p hp => h1.1.1 k p hp, fun k p hp => ?_⟩, fun k hk => ⟨(h1.2 k hk).1, ?_⟩⟩
    · simp only [Val.putσ]
      by_cases e : k = lab
      · subst e; rw [(hf k (Nat.le_refl _) (by omega)).2] at hp; cases hp
      · rw [if_neg e]; exact hp
    · simp only [Val.putσ]
      rw [if_neg (by omega)]
      rfl
  refine ⟨_, hext, ?_⟩
  obtain ⟨V', hV'⟩ : ∃ V', V' = (V.put lab (b, 0)).putσ lab (.int .i64 (cap : Nat)) := ⟨_, rfl⟩
  rw [← hV'] at hext ⊢
  have e1 : V'.β lab = some (b, 0) := by rw [hV']; simp [Val.put, Val.putσ]
  have e2 : V'.σ lab = some (.int .i64 (cap : Nat)) := by rw [hV']; simp [Val.putσ]
  have hulen : us.length = cap := by rw [denL_length hus, hc]
  have hbb : b ≠ b2 := by
    intro e
    exact h.dist l _ lb _ b hne hl hb rfl (by simp [SB.blk, hβ]) (by simp [SB.blk, hβ2, e])
  -- the cell
  have hset : denL V' (cs.set i (.slcR lab 0 n 0)) = some xs := by
    have hx1 : denL V' cs = some xs := denL_mono hext.1 hxs
    obtain ⟨x, hx2, hx3⟩ := denL_get hx1 i _ hi
    have hx4 : den V' (.slcR lab 0 n 0) = some x := by
      simp only [den, hext.1.1 _ _ hβ, Option.map_some, Option.some.injEq] at hx3
      rw [← hx3]
      simp [den, e1, e2, capOf]
    have gen : ∀ (cs : List SV) (xs : List Value) (i : Nat), denL V' cs = some xs → xs[i]? = some x → denL V' (cs.set i (.slcR lab 0 n 0)) = some xs := by
      intro cs
      induction cs with
      | nil => intro xs i h1 h2; simpa using h1
      | cons c r ih =>
        intro xs i h1 h2
        simp only [denL, Option.map_eq_some_iff, Option.bind_eq_some_iff] at h1
        obtain ⟨y, hy, ys, hys, rfl⟩ := h1
        cases i with
        | zero =>
          simp only [List.getElem?_cons_zero, Option.some.injEq] at h2
          subst h2
          simp only [List.set_cons_zero, denL, hx4, hys, Option.bind_some, Option.map_some]
        | succ i =>
          simp only [List.getElem?_cons_succ] at h2
          simp only [List.set_cons_succ, denL, hy, ih ys i hys h2, Option.bind_some, Option.map_some]
    exact gen cs xs i hx1 hx2
  refine h.step (N := fun k => if k = lab then some (.row 1 (cells.take m) el) else if k = l then some .gone else if k = lb then some (.own (cs.set i (.slcR lab 0 n 0)) ty) else none) hext.1 (fun k C hk => ?_) (fun k C hk => ?_) (fun k C p hk hp => ?_) (fun k C k' C' p hne' hk hk' ho hp => ?_) (Nat.le_refl _) (fun _ _ _ => rfl) rfl rfl rfl
  · simp only [upd, Eff.tab, newL, List.cons_append, List.nil_append] at hk
    by_cases k1 : l = k
    · subst k1
      rw [look_cons_eq] at hk
      left
      simp only [if_neg (show ¬ l = lab by omega), if_true]
      simpa using hk
    · rw [look_cons_ne k1] at hk
      by_cases k2 : lb = k
      · subst k2
        rw [look_cons_eq] at hk
        left
        simp only [if_neg (show ¬ lb = lab by omega), if_neg (fun q => hne (Eq.symm q)), if_true]
        simpa using hk
      · rw [look_cons_ne k2] at hk
        by_cases k3 : lab = k
        · subst k3; rw [look_cons_eq] at hk; left; simpa using hk
        · rw [look_cons_ne k3] at hk
          right
          simp only [look] at hk
          exact ⟨by rw [if_neg (fun q => k3 q.symm), if_neg (fun q => k1 q.symm), if_neg (fun q => k2 q.symm)], hk⟩
  · by_cases k1 : k = lab
    · rw [if_pos k1] at hk
      cases hk
      subst k1
      refine ⟨us.take m, by simp only [SB.cells]; exact denL_mono hext.1 (denL_take m hus), b, cap, us.toArray, e1, e2, hh, ?_, by simp [hulen], ⟨m, by simp [hulen]; omega, hm⟩, by simp⟩
      have : (1000000 : Nat) ≤ maxLen := by decide
      omega
    · rw [if_neg k1] at hk
      by_cases k2 : k = l
      · rw [if_pos k2] at hk; cases hk; exact ⟨[], rfl, trivial⟩
      · rw [if_neg k2] at hk
        by_cases k3 : k = lb
        · rw [if_pos k3] at hk
          cases hk
          subst k3
          exact ⟨xs, hset, b2, hext.1.1 _ _ hβ2, hh2⟩
        · rw [if_neg k3] at hk; cases hk
  · by_cases k1 : k = lab
    · rw [if_pos k1] at hk
      cases hk
      subst k1
      simp only [SB.blk, e1, Option.map_some, Option.some.injEq] at hp
      subst hp
      right; left
      exact ⟨l, _, hl, rfl, by simp [SB.blk, hβ], by simp [if_neg (show ¬ l = k by omega)]⟩
    · rw [if_neg k1] at hk
      by_cases k2 : k = l
      · rw [if_pos k2] at hk; cases hk; cases hp
      · rw [if_neg k2] at hk
        by_cases k3 : k = lb
        · rw [if_pos k3] at hk
          cases hk
          subst k3
          simp only [SB.blk, hext.1.1 _ _ hβ2, Option.map_some, Option.some.injEq] at hp
          subst hp
          right; left
          exact ⟨k, _, hb, rfl, by simp [SB.blk, hβ2], by simp [if_neg k1, if_neg k2]⟩
        · rw [if_neg k3] at hk; cases hk
  · have blk : ∀ k C p, (if k = lab then some (SB.row 1 (cells.take m) el) else if k = l then some .gone else if k = lb then some (.own (cs.set i (.slcR lab 0 n 0)) ty) else none) = some C → C.blk V' k = some p → (k = lab ∧ p = b) ∨ (k = lb ∧ p = b2) := by
      intro k C p hk hp
      by_cases k1 : k = lab
      · rw [if_pos k1] at hk
        cases hk
        subst k1
        simp only [SB.blk, e1, Option.map_some, Option.some.injEq] at hp
        exact .inl ⟨rfl, hp.symm⟩
      · rw [if_neg k1] at hk
        by_cases k2 : k = l
        · rw [if_pos k2] at hk; cases hk; cases hp
        · rw [if_neg k2] at hk
          by_cases k3 : k = lb
          · rw [if_pos k3] at hk
            cases hk
            subst k3
            simp only [SB.blk, hext.1.1 _ _ hβ2, Option.map_some, Option.some.injEq] at hp
            exact .inr ⟨rfl, hp.symm⟩
          · rw [if_neg k3] at hk; cases hk
    intro hp'
    rcases blk k C p hk hp with ⟨r1, r2⟩ | ⟨r1, r2⟩ <;> rcases blk k' C' p hk' hp' with ⟨r3, r4⟩ | ⟨r3, r4⟩
    · omega
    · exact hbb (r2.symm.trans r4)
    · exact hbb (r4.symm.trans r2)
    · omega

theorem TabOK.closeT (h : TabOK w0 M V T w) (hf : V.fresh lab) (hlab : ∀ k, lab ≤ k → T k = none) {l cap n m : Nat} {cells : List SV} {el : TypeId} (hl : T l = some (.own cells el)) (hc : cells.length = cap) (hm : m ≤ cap) (hcap : cap ≤ 1000000) {x : Value} (hx : den V (.slc l true 0 n cap) = some x) :
    ∃ V', V.ext lab V' ∧ den V' (.slcR lab 0 n 0) = some x ∧ TabOK w0 M V' (upd T lab { val := .slcR lab 0 n 0, new := [.row 1 (cells.take m) el], wr := [(l, .gone)] }) w := by
  obtain ⟨us, hus, b, hβ, hh⟩ := h.ok l _ hl
  have hlt : l < lab := Nat.lt_of_not_le fun q => by rw [hlab l q] at hl; cases hl
  have hext : V.ext lab ((V.put lab (b, 0)).putσ lab (.int .i64 (cap : Nat))) := by
    have h1 := Val.put_ext hf lab (Nat.le_refl _) (by omega) (b, 0)
    refine ⟨⟨fun k p hp => h1.1.1 k p hp, fun k p hp => ?_⟩, fun k hk => ⟨(h1.2 k hk).1, ?_⟩⟩
    · simp only [Val.putσ]
      by_cases e : k = lab
      · subst e; rw [(hf k (Nat.le_refl _) (by omega)).2] at hp; cases hp
      · rw [if_neg e]; exact hp
    · simp only [Val.putσ]
      rw [if_neg (by omega)]
      rfl
  refine ⟨_, hext, ?_⟩
  obtain ⟨V', hV'⟩ : ∃ V', V' = (V.put lab (b, 0)).putσ lab (.int .i64 (cap : Nat)) := ⟨_, rfl⟩
  rw [← hV'] at hext ⊢
  have e1 : V'.β lab = some (b, 0) := by rw [hV']; simp [Val.put, Val.putσ]
  have e2 : V'.σ lab = some (.int .i64 (cap : Nat)) := by rw [hV']; simp [Val.putσ]
  have hulen : us.length = cap := by rw [denL_length hus, hc]
  refine ⟨?_, ?_⟩
  · simp only [den, hβ, Option.map_some, Option.some.injEq] at hx
    rw [← hx]
    simp [den, e1, e2, capOf]
  refine h.step (N := fun k => if k = lab then some (.row 1 (cells.take m) el) else if k = l then some .gone else none) hext.1 (fun k C hk => ?_) (fun k C hk => ?_) (fun k C p hk hp => ?_) (fun k C k' C' p hne' hk hk' ho hp => ?_) (Nat.le_refl _) (fun _ _ _ => rfl) rfl rfl rfl
  · simp only [upd, Eff.tab, newL, List.cons_append, List.nil_append] at hk
    by_cases k1 : l = k
    · subst k1
      rw [look_cons_eq] at hk
      left
      simp only [if_neg (show ¬ l = lab by omega), if_true]
      simpa using hk
    · rw [look_cons_ne k1] at hk
      by_cases k3 : lab = k
      · subst k3; rw [look_cons_eq] at hk; left; simpa using hk
      · rw [look_cons_ne k3] at hk
        right
        simp only [look] at hk
        exact ⟨by rw [if_neg (fun q => k3 q.symm), if_neg (fun q => k1 q.symm)], hk⟩
  · by_cases k1 : k = lab
    · rw [if_pos k1] at hk
      cases hk
      subst k1
      refine ⟨us.take m, by simp only [SB.cells]; exact denL_mono hext.1 (denL_take m hus), b, cap, us.toArray, e1, e2, hh, ?_, by simp [hulen], ⟨m, by simp [hulen]; omega, hm⟩, by simp⟩
      have : (1000000 : Nat) ≤ maxLen := by decide
      omega
    · rw [if_neg k1] at hk
      by_cases k2 : k = l
      · rw [if_pos k2] at hk; cases hk; exact ⟨[], rfl, trivial⟩
      · rw [if_neg k2] at hk; cases hk
  · by_cases k1 : k = lab
    · rw [if_pos k1] at hk
      cases hk
      subst k1
      simp only [SB.blk, e1, Option.map_some, Option.some.injEq] at hp
      subst hp
      right; left
      exact ⟨l, _, hl, rfl, by simp [SB.blk, hβ], by simp [if_neg (show ¬ l = k by omega)]⟩
    · rw [if_neg k1] at hk
      by_cases k2 : k = l
      · rw [if_pos k2] at hk; cases hk; cases hp
      · rw [if_neg k2] at hk; cases hk
  · intro hp'
    by_cases k1 : k = lab
    · by_cases k2 : k' = lab
      · omega
      · rw [if_neg k2] at hk'
        by_cases k3 : k' = l
        · rw [if_pos k3] at hk'; cases hk'; cases hp'
        · rw [if_neg k3] at hk'; cases hk'
    · rw [if_neg k1] at hk
      by_cases k3 : k = l
      · rw [if_pos k3] at hk; cases hk; cases ho
      · rw [if_neg k3] at hk; cases hk

theorem TabOK.closeB (h : TabOK w0 M V T w) (hf : V.fresh lab) (hlab : ∀ k, lab ≤ k → T k = none) {l cap n : Nat} {cells : List SV} {el : TypeId} {k0 : IntKind} {ns : List Int} (hl : T l = some (.own cells el)) (hc : cells.length = cap) (hn : n ≤ cap) (hcap : cap ≤ 1000000) (hk : intsK k0 (cells.take n) = some ns) {x : Value} (hx : den V (.slc l true 0 n cap) = some x) :
    ∃ V', V.ext lab V' ∧ den V' (.buf lab) = some x ∧ TabOK w0 M V' (upd T lab { val := .buf lab, new := [.rowi k0 ns el], wr := [(l, .gone)] }) w := by
  obtain ⟨us, hus, b, hβ, hh⟩ := h.ok l _ hl
  have hlt : l < lab := Nat.lt_of_not_le fun q => by rw [hlab l q] at hl; cases hl
  have hext := Val.putσ_ext hf lab (Nat.le_refl _) (by omega) x
  have e2 : (V.putσ lab x).σ lab = some x := by simp [Val.putσ]
  have hulen : us.length = cap := by rw [denL_length hus, hc]
  have hx' : x = .slice (some ⟨b, 0, none⟩) n cap := by
    simp only [den, hβ, Option.map_some, Option.some.injEq] at hx
    exact hx.symm
  have htake : us.take n = ns.map (Value.int k0) := by
    have h1 := denL_take n hus
    have h2 := intsK_ok (V := V) hk
    rw [h1] at h2
    exact Option.some.inj h2
  have hnlen : ns.length = n := by
    have := congrArg List.length htake
    simp [hulen] at this
    omega
  refine ⟨_, hext, by simp [den, e2], ?_⟩
  refine h.step (N := fun k => if k = lab then some (.rowi k0 ns el) else if k = l then some .gone else none) hext.1 (fun k C hk => ?_) (fun k C hk => ?_) (fun k C p hk hp => ?_) (fun k C k' C' p hne' hk hk' ho hp => ?_) (Nat.le_refl _) (fun _ _ _ => rfl) rfl rfl rfl
  · simp only [upd, Eff.tab, newL, List.cons_append, List.nil_append] at hk
    by_cases k1 : l = k
    · subst k1
      rw [look_cons_eq] at hk
      left
      simp only [if_neg (show ¬ l = lab by omega), if_true]
      simpa using hk
    · rw [look_cons_ne k1] at hk
      by_cases k3 : lab = k
      · subst k3; rw [look_cons_eq] at hk; left; simpa using hk
      · rw [look_cons_ne k3] at hk
        right
        simp only [look] at hk
        exact ⟨by rw [if_neg (fun q => k3 q.symm), if_neg (fun q => k1 q.symm)], hk⟩
  · by_cases k1 : k = lab
    · rw [if_pos k1] at hk
      cases hk
      subst k1
      refine ⟨_, rfl, x, e2, by simp, .inr ⟨b, cap, us.toArray, ?_, Nat.zero_le _, hh, by rw [hnlen]; exact hn, ?_, by simp [hulen], ?_⟩⟩
      · rw [hx', hnlen]
      · have : (1000000 : Nat) ≤ maxLen := by decide
        omega
      · rw [hnlen, ← htake]; simp
    · rw [if_neg k1] at hk
      by_cases k2 : k = l
      · rw [if_pos k2] at hk; cases hk; exact ⟨[], rfl, trivial⟩
      · rw [if_neg k2] at hk; cases hk
  · by_cases k1 : k = lab
    · rw [if_pos k1] at hk
      cases hk
      subst k1
      simp only [SB.blk, e2, Option.bind_some] at hp
      rw [hx'] at hp
      simp only [Value.ownBlock, Option.some.injEq] at hp
      subst hp
      right; left
      exact ⟨l, _, hl, rfl, by simp [SB.blk, hβ], by simp [if_neg (show ¬ l = k by omega)]⟩
    · rw [if_neg k1] at hk
      by_cases k2 : k = l
      · rw [if_pos k2] at hk; cases hk; cases hp
      · rw [if_neg k2] at hk; cases hk
  · intro hp'
    by_cases k1 : k = lab
    · by_cases k2 : k' = lab
      · omega
      · rw [if_neg k2] at hk'
        by_cases k3 : k' = l
        · rw [if_pos k3] at hk'; cases hk'; cases hp'
        · rw [if_neg k3] at hk'; cases hk'
    · rw [if_neg k1] at hk
      by_cases k3 : k = l
      · rw [if_pos k3] at hk; cases hk; cases ho
      · rw [if_neg k3] at hk; cases hk

/-- A slice that is only read, under a label of the function's own. -/
theorem TabOK.aliasT (hT : TabOK w0 M V T w) (hf : V.fresh lab) {l n : Nat} {k : IntKind} {xs : List Int} (hB : T l = some (.rov k xs)) {x : Value} (hx : den V (.ros l n) = some x) :
    ∃ V', V.ext lab V' ∧ den V' (.ros lab n) = some x ∧ TabOK w0 M V' (upd T lab { val := .ros lab n, new := [.rov k xs] }) w := by
  simp only [den, Option.bind_eq_some_iff] at hx
  obtain ⟨v, hσ, ex⟩ := hx
  obtain ⟨cs, hc, v', hσ', hrow⟩ := hT.ok l _ hB
  rw [hσ] at hσ'
  cases hσ'
  have hext := Val.putσ_ext hf lab (Nat.le_refl _) (by omega) v
  refine ⟨V.putσ lab v, hext, by simp [den, Val.putσ, ex], ?_⟩
  refine hT.step (N := fun m => if m = lab then some (.rov k xs) else none) hext.1 (fun m C hm => ?_) (fun m C hm => ?_) (fun m C q hm hq => ?_) (fun m C m' C' q hne hm hm' ho2 _ => ?_) (Nat.le_refl _) (fun _ _ _ => rfl) rfl rfl rfl
  · unfold upd Eff.tab at hm
    simp only [newL, List.nil_append, look] at hm
    by_cases e : m = lab
    · subst e
      left
      simpa using hm
    · right
      refine ⟨if_neg e, ?_⟩
      have : Nat.beq lab m = false := by
        cases hb2 : Nat.beq lab m with
        | false => rfl
        | true => exact absurd (Nat.eq_of_beq_eq_true hb2).symm e
      simpa [this] using hm
  · split at hm
    · rename_i e
      subst e
      cases hm
      exact ⟨cs, hc, v, by simp [Val.putσ], hrow⟩
    · cases hm
  · split at hm
    · rename_i e
      subst e
      cases hm
      refine .inr (.inr ⟨rfl, fun l2 B2 hn2 hl2 ho2 hb2 => ?_⟩)
      simp only [SB.blk, Val.putσ, if_pos, Option.bind_some] at hq
      have hne : l2 ≠ l := fun e => by subst e; rw [hB] at hl2; cases hl2; cases ho2
      exact hT.dist l2 B2 l _ q hne hl2 hB ho2 hb2 (by simp [SB.blk, hσ, hq])
    · cases hm
  · split at hm
    · cases hm; cases ho2
    · cases hm

theorem denL_set {V : Val} {x : Value} {v : SV} (hv : den V v = some x) : ∀ (cs : List SV) (xs : List Value) (i : Nat), denL V cs = some xs → xs[i]? = some x → denL V (cs.set i v) = some xs
  | [], xs, i, h1, h2 => by simpa using h1
  | c :: r, xs, i, h1, h2 => by
    simp only [denL, Option.map_eq_some_iff, Option.bind_eq_some_iff] at h1
    obtain ⟨y, hy, ys, hys, rfl⟩ := h1
    cases i with
    | zero =>
      simp only [List.getElem?_cons_zero, Option.some.injEq] at h2
      subst h2
      simp only [List.set_cons_zero, denL, hv, hys, Option.bind_some, Option.map_some]
    | succ i =>
      simp only [List.getElem?_cons_succ] at h2
      simp only [List.set_cons_succ, denL, hy, denL_set hv r ys i hys h2, Option.bind_some, Option.map_some]

theorem TabOK.nilC (h : TabOK w0 M V T w) (hf : V.fresh lab) (hlab : ∀ k, lab ≤ k → T k = none) {lb : Nat} {cs : List SV} {ty el : TypeId} {k0 : IntKind} {i : Nat}
    (hb : T lb = some (.own cs ty)) (hi : cs[i]? = some (.raw (.slice none 0 0))) (v : SV) :
    ∃ V', V.ext lab V' ∧ TabOK w0 M V' (upd T lab { val := v, new := [.rowi k0 [] el], wr := [(lb, .own (cs.set i (.buf lab)) ty)] }) w := by
  obtain ⟨xs, hxs, b2, hβ2, hh2⟩ := h.ok lb _ hb
  have hltb : lb < lab := Nat.lt_of_not_le fun q => by rw [hlab lb q] at hb; cases hb
  have hext := Val.putσ_ext hf lab (Nat.le_refl _) (by omega) (.slice none 0 0)
  refine ⟨_, hext, ?_⟩
  have e2 : (V.putσ lab (.slice none 0 0)).σ lab = some (.slice none 0 0) := by simp [Val.putσ]
  have hset : denL (V.putσ lab (.slice none 0 0)) (cs.set i (.buf lab)) = some xs := by
    have hx1 : denL (V.putσ lab (.slice none 0 0)) cs = some xs := denL_mono hext.1 hxs
    obtain ⟨x, hx2, hx3⟩ := denL_get hx1 i _ hi
    simp only [den, Option.some.injEq] at hx3
    exact denL_set (by rw [← hx3]; simp [den, e2]) cs xs i hx1 hx2
  refine h.step (N := fun k => if k = lab then some (.rowi k0 [] el) else if k = lb then some (.own (cs.set i (.buf lab)) ty) else none) hext.1 (fun k C hk => ?_) (fun k C hk => ?_) (fun k C p hk hp => ?_) (fun k C k' C' p hne' hk hk' ho hp => ?_) (Nat.le_refl _) (fun _ _ _ => rfl) rfl rfl rfl
  · simp only [upd, Eff.tab, newL, List.cons_append, List.nil_append] at hk
    by_cases k2 : lb = k
    · subst k2
      rw [look_cons_eq] at hk
      left
      simp only [if_neg (show ¬ lb = lab by omega), if_true]
      simpa using hk
    · rw [look_cons_ne k2] at hk
      by_cases k3 : lab = k
      · subst k3; rw [look_cons_eq] at hk; left; simpa using hk
      · rw [look_cons_ne k3] at hk
        right
        simp only [look] at hk
        exact ⟨by rw [if_neg (fun q => k3 q.symm), if_neg (fun q => k2 q.symm)], hk⟩
  · by_cases k1 : k = lab
    · rw [if_pos k1] at hk
      cases hk
      subst k1
      exact ⟨[], rfl, _, e2, rfl, .inl ⟨rfl, rfl⟩⟩
    · rw [if_neg k1] at hk
      by_cases k3 : k = lb
      · rw [if_pos k3] at hk
        cases hk
        subst k3
        exact ⟨xs, hset, b2, hext.1.1 _ _ hβ2, hh2⟩
      · rw [if_neg k3] at hk; cases hk
  · by_cases k1 : k = lab
    · rw [if_pos k1] at hk
      cases hk
      subst k1
      simp [SB.blk, e2, Value.ownBlock] at hp
    · rw [if_neg k1] at hk
      by_cases k3 : k = lb
      · rw [if_pos k3] at hk
        cases hk
        subst k3
        simp only [SB.blk, hext.1.1 _ _ hβ2, Option.map_some, Option.some.injEq] at hp
        subst hp
        right; left
        exact ⟨k, _, hb, rfl, by simp [SB.blk, hβ2], by simp [if_neg k1]⟩
      · rw [if_neg k3] at hk; cases hk
  · intro hp'
    by_cases k1 : k = lab
    · rw [if_pos k1] at hk
      cases hk
      subst k1
      simp [SB.blk, e2, Value.ownBlock] at hp
    · by_cases k2 : k' = lab
      · rw [if_pos k2] at hk'
        cases hk'
        subst k2
        simp [SB.blk, e2, Value.ownBlock] at hp'
      · rw [if_neg k1] at hk
        rw [if_neg k2] at hk'
        by_cases k3 : k = lb
        · by_cases k4 : k' = lb
          · omega
          · rw [if_neg k4] at hk'; cases hk'
        · rw [if_neg k3] at hk; cases hk
theorem TabOK.nilX (h : TabOK w0 M V T w) (hf : V.fresh lab) (hlab : ∀ k, lab ≤ k → T k = none) {lb : Nat} {cs : List SV} {ty el : TypeId} {sz : Nat} {i : Nat}
    (hb : T lb = some (.own cs ty)) (hi : cs[i]? = some (.raw (.slice none 0 0))) (v : SV) :
    ∃ V', V.ext lab V' ∧ TabOK w0 M V' (upd T lab { val := v, new := [.rowx sz 0 el], wr := [(lb, .own (cs.set i (.buf lab)) ty)] }) w := by
  obtain ⟨xs, hxs, b2, hβ2, hh2⟩ := h.ok lb _ hb
  have hltb : lb < lab := Nat.lt_of_not_le fun q => by rw [hlab lb q] at hb; cases hb
  have hext := Val.putσ_ext hf lab (Nat.le_refl _) (by omega) (.slice none 0 0)
  refine ⟨_, hext, ?_⟩
  have e2 : (V.putσ lab (.slice none 0 0)).σ lab = some (.slice none 0 0) := by simp [Val.putσ]
  have hset : denL (V.putσ lab (.slice none 0 0)) (cs.set i (.buf lab)) = some xs := by
    have hx1 : denL (V.putσ lab (.slice none 0 0)) cs = some xs := denL_mono hext.1 hxs
    obtain ⟨x, hx2, hx3⟩ := denL_get hx1 i _ hi
    simp only [den, Option.some.injEq] at hx3
    exact denL_set (by rw [← hx3]; simp [den, e2]) cs xs i hx1 hx2
  refine h.step (N := fun k => if k = lab then some (.rowx sz 0 el) else if k = lb then some (.own (cs.set i (.buf lab)) ty) else none) hext.1 (fun k C hk => ?_) (fun k C hk => ?_) (fun k C p hk hp => ?_) (fun k C k' C' p hne' hk hk' ho hp => ?_) (Nat.le_refl _) (fun _ _ _ => rfl) rfl rfl rfl
  · simp only [upd, Eff.tab, newL, List.cons_append, List.nil_append] at hk
    by_cases k2 : lb = k
    · subst k2
      rw [look_cons_eq] at hk
      left
      simp only [if_neg (show ¬ lb = lab by omega), if_true]
      simpa using hk
    · rw [look_cons_ne k2] at hk
      by_cases k3 : lab = k
      · subst k3; rw [look_cons_eq] at hk; left; simpa using hk
      · rw [look_cons_ne k3] at hk
        right
        simp only [look] at hk
        exact ⟨by rw [if_neg (fun q => k3 q.symm), if_neg (fun q => k2 q.symm)], hk⟩
  · by_cases k1 : k = lab
    · rw [if_pos k1] at hk
      cases hk
      subst k1
      exact ⟨[], rfl, _, [], e2, ⟨by simp, .inl ⟨rfl, rfl⟩⟩, fun q hq => by cases hq⟩
    · rw [if_neg k1] at hk
      by_cases k3 : k = lb
      · rw [if_pos k3] at hk
        cases hk
        subst k3
        exact ⟨xs, hset, b2, hext.1.1 _ _ hβ2, hh2⟩
      · rw [if_neg k3] at hk; cases hk
  · by_cases k1 : k = lab
    · rw [if_pos k1] at hk
      cases hk
      subst k1
      simp [SB.blk, e2, Value.ownBlock] at hp
    · rw [if_neg k1] at hk
      by_cases k3 : k = lb
      · rw [if_pos k3] at hk
        cases hk
        subst k3
        simp only [SB.blk, hext.1.1 _ _ hβ2, Option.map_some, Option.some.injEq] at hp
        subst hp
        right; left
        exact ⟨k, _, hb, rfl, by simp [SB.blk, hβ2], by simp [if_neg k1]⟩
      · rw [if_neg k3] at hk; cases hk
  · intro hp'
    by_cases k1 : k = lab
    · rw [if_pos k1] at hk
      cases hk
      subst k1
      simp [SB.blk, e2, Value.ownBlock] at hp
    · by_cases k2 : k' = lab
      · rw [if_pos k2] at hk'
        cases hk'
        subst k2
        simp [SB.blk, e2, Value.ownBlock] at hp'
      · rw [if_neg k1] at hk
        rw [if_neg k2] at hk'
        by_cases k3 : k = lb
        · by_cases k4 : k' = lb
          · omega
          · rw [if_neg k4] at hk'; cases hk'
        · rw [if_neg k3] at hk; cases hk
theorem TabOK.nilT (hT : TabOK w0 M V T w) (hf : V.fresh lab) {sz : Nat} {el : TypeId} {x : Value} (hx : den V (.raw (.slice none 0 0)) = some x) :
    ∃ V', V.ext lab V' ∧ den V' (.buf lab) = some x ∧ TabOK w0 M V' (upd T lab { val := .buf lab, new := [.rowx sz 0 el] }) w := by
  simp only [den, Option.some.injEq] at hx
  subst hx
  have hext := Val.putσ_ext hf lab (Nat.le_refl _) (by omega) (.slice none 0 0)
  have e2 : (V.putσ lab (.slice none 0 0)).σ lab = some (.slice none 0 0) := by simp [Val.putσ]
  refine ⟨V.putσ lab (.slice none 0 0), hext, by simp [den, e2], ?_⟩
  refine hT.step (N := fun m => if m = lab then some (.rowx sz 0 el) else none) hext.1 (fun m C hm => ?_) (fun m C hm => ?_) (fun m C q hm hq => ?_) (fun m C m' C' q hne hm hm' ho2 hq => ?_) (Nat.le_refl _) (fun _ _ _ => rfl) rfl rfl rfl
  · unfold upd Eff.tab at hm
    simp only [newL, List.nil_append, look] at hm
    by_cases e : m = lab
    · subst e
      left
      simpa using hm
    · right
      refine ⟨if_neg e, ?_⟩
      have : Nat.beq lab m = false := by
        cases hb2 : Nat.beq lab m with
        | false => rfl
        | true => exact absurd (Nat.eq_of_beq_eq_true hb2).symm e
      simpa [this] using hm
  · split at hm
    · rename_i e
      subst e
      cases hm
      exact ⟨[], rfl, _, [], e2, ⟨by simp, .inl ⟨rfl, rfl⟩⟩, fun q hq => by cases hq⟩
    · cases hm
  · split at hm
    · rename_i e
      subst e
      cases hm
      simp [SB.blk, e2, Value.ownBlock] at hq
    · cases hm
  · split at hm
    · rename_i e
      subst e
      cases hm
      simp [SB.blk, e2, Value.ownBlock] at hq
    · cases hm
end

/-- Where a slice stands that is to be closed: in the block that a temporary points to, at a cell; or in the temporary itself; how many cells of it are to be known. -/
inductive Cl where
  | cell (t i m : Nat)
  | tmp (t m : Nat)
  | buf (t : Nat) (k : IntKind)
  | nil (t i : Nat) (k : IntKind) (el : TypeId)
  | ali (t : Nat)
  | nilx (t i sz : Nat) (el : TypeId)
  | nilt (t sz : Nat) (el : TypeId)

noncomputable def closeC (F0 N : Nat) (B : Tab) (c : Cl) (s : St) : Option St := match c with
  | .cell t i m => match s.g.get t with
    | some (.ptr lb true 0) => match s.T B lb with
      | some (.own cs ty) => match cs[i]? with
        | some (.slc l true 0 n cap) => match s.T B l with
          | some (.own cells el) => match Nat.beq cells.length cap && (Nat.ble m cap && (!Nat.beq l lb && Nat.ble cap 1000000)) with
            | true => s.step F0 N none { val := .raw undef, new := [.row 1 (cells.take m) el], wr := [(l, .gone), (lb, .own (cs.set i (.slcR s.nx 0 n 0)) ty)] } s.nx (s.nx + 8)
            | false => none
          | _ => none
        | some (.raw (.slice none 0 0)) => some s
        | _ => none
      | _ => none
    | _ => none
  | .tmp t m => match s.g.get t with
    | some (.slc l true 0 n cap) => match s.T B l with
      | some (.own cells el) => match Nat.beq cells.length cap && (Nat.ble m cap && Nat.ble cap 1000000) with
        | true => s.step F0 N (some t) { val := .slcR s.nx 0 n 0, new := [.row 1 (cells.take m) el], wr := [(l, .gone)] } s.nx (s.nx + 8)
        | false => none
      | _ => none
    | _ => none
  | .buf t k => match s.g.get t with
    | some (.slc l true 0 n cap) => match s.T B l with
      | some (.own cells el) => match Nat.beq cells.length cap && (Nat.ble n cap && Nat.ble cap 1000000), intsK k (cells.take n) with
        | true, some ns => s.step F0 N (some t) { val := .buf s.nx, new := [.rowi k ns el], wr := [(l, .gone)] } s.nx (s.nx + 8)
        | _, _ => none
      | _ => none
    | _ => none
  | .nil t i k el => match s.g.get t with
    | some (.ptr lb true 0) => match s.T B lb with
      | some (.own cs ty) => match cs[i]? with
        | some (.raw (.slice none 0 0)) => s.step F0 N none { val := .raw undef, new := [.rowi k [] el], wr := [(lb, .own (cs.set i (.buf s.nx)) ty)] } s.nx (s.nx + 8)
        | some (.buf _) => some s
        | _ => none
      | _ => none
    | _ => none
  | .ali t => match s.g.get t with
    | some (.ros l n) => match s.T B l with
      | some (.rov k xs) => s.step F0 N (some t) { val := .ros s.nx n, new := [.rov k xs] } s.nx (s.nx + 8)
      | _ => none
    | _ => none
  | .nilx t i sz el => match s.g.get t with
    | some (.ptr lb true 0) => match s.T B lb with
      | some (.own cs ty) => match cs[i]? with
        | some (.raw (.slice none 0 0)) => s.step F0 N none { val := .raw undef, new := [.rowx sz 0 el], wr := [(lb, .own (cs.set i (.buf s.nx)) ty)] } s.nx (s.nx + 8)
        | some (.buf _) => some s
        | _ => none
      | _ => none
    | _ => none
  | .nilt t sz el => match s.g.get t with
    | some (.raw (.slice none 0 0)) => s.step F0 N (some t) { val := .buf s.nx, new := [.rowx sz 0 el] } s.nx (s.nx + 8)
    | some (.buf _) => some s
    | _ => none

noncomputable def closeS (F0 N : Nat) (B : Tab) : List Cl → St → Option St
  | [], s => some s
  | c :: r, s => match closeC F0 N B c s with
    | some s => closeS F0 N B r s
    | none => none

section
variable {P : Program} {Γ : Env} {w0 : World} {M : Nat → Prop} {B : Tab} {N F0 : Nat} {V0 : Val}

theorem Inv.closeC {c : Cl} {s s' : St} (h : closeC F0 N B c s = some s') {V : Val} {a : Act} {w : World} (hi : Inv P Γ w0 M B N F0 V0 s V a w) : (∃ V', Inv P Γ w0 M B N F0 V0 s' V' a w) ∧ s'.ob = s.ob := by
  cases c with
  | cell t i m =>
    simp only [Sx.closeC] at h
    split at h
    case h_2 => cases h
    rename_i lb _
    split at h
    case h_2 => cases h
    rename_i cs ty hb
    split at h
    case h_3 => cases h
    · rename_i l n cap hc
      split at h
      case h_2 => cases h
      rename_i cells el hl
      split at h
      case h_2 => cases h
      rename_i hck
      simp only [Bool.and_eq_true, Bool.not_eq_true'] at hck
      obtain ⟨k1, k2, k3, k4⟩ := hck
      obtain ⟨V', hV, hT⟩ := TabOK.close hi.tab hi.top.fresh hi.hi hl (Nat.eq_of_beq_eq_true k1) (Nat.le_of_ble_eq_true k2) (Nat.le_of_ble_eq_true k4) hb hc (fun e => by subst e; rw [Nat.beq_refl] at k3; cases k3) (.raw undef)
      refine ⟨⟨V', ?_⟩, (St.step_T B h).2.2.1⟩
      exact hi.step (x := undef) h (Nat.le_refl _) (Nat.le_refl _) hV (fun h => by cases h) hT
    · cases h; exact ⟨⟨V, hi⟩, rfl⟩
  | tmp t m =>
    simp only [Sx.closeC] at h
    split at h
    case h_2 => cases h
    rename_i l n cap ht
    split at h
    case h_2 => cases h
    rename_i cells el hl
    split at h
    case h_2 => cases h
    rename_i hck
    simp only [Bool.and_eq_true] at hck
    obtain ⟨k1, k2, k4⟩ := hck
    obtain ⟨V', hV, hx, hT⟩ := TabOK.closeT hi.tab hi.top.fresh hi.hi hl (Nat.eq_of_beq_eq_true k1) (Nat.le_of_ble_eq_true k2) (Nat.le_of_ble_eq_true k4) (hi.tmp t _ ht)
    have := hi.step (x := a.eval (.tmp t)) h (Nat.le_refl _) (Nat.le_refl _) hV (fun _ => hx) hT
    rw [Act.put_same] at this
    exact ⟨⟨V', this⟩, (St.step_T B h).2.2.1⟩
  | buf t k =>
    simp only [Sx.closeC] at h
    split at h
    case h_2 => cases h
    rename_i l n cap ht
    split at h
    case h_2 => cases h
    rename_i cells el hl
    split at h
    case h_2 => cases h
    rename_i ns hck hk
    simp only [Bool.and_eq_true] at hck
    obtain ⟨k1, k2, k4⟩ := hck
    obtain ⟨V', hV, hx, hT⟩ := TabOK.closeB hi.tab hi.top.fresh hi.hi hl (Nat.eq_of_beq_eq_true k1) (Nat.le_of_ble_eq_true k2) (Nat.le_of_ble_eq_true k4) hk (hi.tmp t _ ht)
    have := hi.step (x := a.eval (.tmp t)) h (Nat.le_refl _) (Nat.le_refl _) hV (fun _ => hx) hT
    rw [Act.put_same] at this
    exact ⟨⟨V', this⟩, (St.step_T B h).2.2.1⟩
  | nil t i k el =>
    simp only [Sx.closeC] at h
    split at h
    case h_2 => cases h
    rename_i lb _
    split at h
    case h_2 => cases h
    rename_i cs ty hb
    split at h
    case h_3 => cases h
    · rename_i hc
      obtain ⟨V', hV, hT⟩ := TabOK.nilC (k0 := k) (el := el) hi.tab hi.top.fresh hi.hi hb hc (.raw undef)
      exact ⟨⟨V', hi.step (x := undef) h (Nat.le_refl _) (Nat.le_refl _) hV (fun h => by cases h) hT⟩, (St.step_T B h).2.2.1⟩
    · cases h; exact ⟨⟨V, hi⟩, rfl⟩
  | ali t =>
    simp only [Sx.closeC] at h
    split at h
    case h_2 => cases h
    rename_i l n ht
    split at h
    case h_2 => cases h
    rename_i k xs hl
    obtain ⟨V', hV, hx, hT⟩ := TabOK.aliasT hi.tab hi.top.fresh hl (hi.tmp t _ ht)
    have := hi.step (x := a.eval (.tmp t)) h (Nat.le_refl _) (Nat.le_refl _) hV (fun _ => hx) hT
    rw [Act.put_same] at this
    exact ⟨⟨V', this⟩, (St.step_T B h).2.2.1⟩
  | nilx t i sz el =>
    simp only [Sx.closeC] at h
    split at h
    case h_2 => cases h
    rename_i lb _
    split at h
    case h_2 => cases h
    rename_i cs ty hb
    split at h
    case h_3 => cases h
    · rename_i hc
      obtain ⟨V', hV, hT⟩ := TabOK.nilX (sz := sz) (el := el) hi.tab hi.top.fresh hi.hi hb hc (.raw undef)
      exact ⟨⟨V', hi.step (x := undef) h (Nat.le_refl _) (Nat.le_refl _) hV (fun h => by cases h) hT⟩, (St.step_T B h).2.2.1⟩
    · cases h; exact ⟨⟨V, hi⟩, rfl⟩
  | nilt t sz el =>
    simp only [Sx.closeC] at h
    split at h
    case h_3 => cases h
    · rename_i ht
      obtain ⟨V', hV, hx, hT⟩ := TabOK.nilT (sz := sz) (el := el) hi.tab hi.top.fresh (hi.tmp t _ ht)
      have := hi.step (x := a.eval (.tmp t)) h (Nat.le_refl _) (Nat.le_refl _) hV (fun _ => hx) hT
      rw [Act.put_same] at this
      exact ⟨⟨V', this⟩, (St.step_T B h).2.2.1⟩
    · cases h; exact ⟨⟨V, hi⟩, rfl⟩

theorem Inv.closeS : ∀ {cl : List Cl} {s s' : St}, closeS F0 N B cl s = some s' → ∀ {V : Val} {a : Act} {w : World}, Inv P Γ w0 M B N F0 V0 s V a w → (∃ V', Inv P Γ w0 M B N F0 V0 s' V' a w)
  | [], s, s', h, V, a, w, hi => by simp only [Sx.closeS, Option.some.injEq] at h; subst h; exact ⟨V, hi⟩
  | c :: r, s, s', h, V, a, w, hi => by
    simp only [Sx.closeS] at h
    split at h
    · rename_i s1 h1
      obtain ⟨⟨V1, hi1⟩, e⟩ := hi.closeC h1
      exact Inv.closeS h hi1
    · cases h

theorem closeC_ob {c : Cl} {s s' : St} (h : closeC F0 N B c s = some s') : s'.ob = s.ob := by
  cases c with
  | cell t i m =>
    simp only [Sx.closeC] at h
    split at h
    case h_2 => cases h
    split at h
    case h_2 => cases h
    split at h
    case h_3 => cases h
    · split at h
      case h_2 => cases h
      split at h
      case h_2 => cases h
      exact (St.step_T B h).2.2.1
    · cases h; rfl
  | tmp t m =>
    simp only [Sx.closeC] at h
    split at h
    case h_2 => cases h
    split at h
    case h_2 => cases h
    split at h
    case h_2 => cases h
    exact (St.step_T B h).2.2.1
  | buf t k =>
    simp only [Sx.closeC] at h
    split at h
    case h_2 => cases h
    split at h
    case h_2 => cases h
    split at h
    case h_2 => cases h
    exact (St.step_T B h).2.2.1
  | nil t i k el =>
    simp only [Sx.closeC] at h
    split at h
    case h_2 => cases h
    split at h
    case h_2 => cases h
    split at h
    case h_3 => cases h
    · exact (St.step_T B h).2.2.1
    · cases h; rfl
  | ali t =>
    simp only [Sx.closeC] at h
    split at h
    case h_2 => cases h
    split at h
    case h_2 => cases h
    exact (St.step_T B h).2.2.1
  | nilx t i sz el =>
    simp only [Sx.closeC] at h
    split at h
    case h_2 => cases h
    split at h
    case h_2 => cases h
    split at h
    case h_3 => cases h
    · exact (St.step_T B h).2.2.1
    · cases h; rfl
  | nilt t sz el =>
    simp only [Sx.closeC] at h
    split at h
    case h_3 => cases h
    · exact (St.step_T B h).2.2.1
    · cases h; rfl

theorem closeS_ob : ∀ {cl : List Cl} {s s' : St}, closeS F0 N B cl s = some s' → s'.ob = s.ob
  | [], s, s', h => by simp only [Sx.closeS, Option.some.injEq] at h; subst h; rfl
  | c :: r, s, s', h => by
    simp only [Sx.closeS] at h
    split at h
    · rename_i s1 h1
      rw [closeS_ob h, closeC_ob h1]
    · cases h

/-- As 'endR', slices closed first. -/
noncomputable def endC (Γ : Env) (T : Tab) (lab F : Nat) (fn : Func) (cl : List Cl) (r : Option Cfg) : Option Eff := match r with
  | some r => match r.cf, r.fr with
    | .at x, [] => match closeS F fn.ntmps (cutT F T) cl r.st with
      | some s => endS Γ T lab F fn x s
      | none => none
    | _, _ => none
  | none => none

theorem G.finC (hty : TyOK P Γ) (hsum : SumsOK P Γ) (hmix : P.follows .mixedOrders = true) {T : Tab} {lab : Nat} {fn : Func} {e e' : Eff} {cl : List Cl} {stops : List Nat} {lf n : Nat} {cf : Cf} {K : List Fr} {s : St} (hs : List Bool) {Q : Exit → Act → World → Prop}
    (H : ∀ x s e', endS Γ T lab F0 fn x s = some e' → (∀ q ∈ e'.obl, q) → e'.val = e.val → e'.new = e.new → e'.wr = e.wr → G P Γ w0 M (cutT F0 T) fn.ntmps F0 V0 (.at x) [] s Q)
    (h : endC Γ T lab F0 fn cl (mrun Γ (cutT F0 T) F0 fn.ntmps stops lf n cf K (s.hint hs)) = some e') (hp : ∀ q ∈ e'.obl, q) (h1 : e'.val = e.val) (h2 : e'.new = e.new) (h3 : e'.wr = e.wr) :
    G P Γ w0 M (cutT F0 T) fn.ntmps F0 V0 cf K s Q := by
  unfold endC at h
  split at h
  case h_2 => cases h
  rename_i r hr
  split at h
  case h_2 => cases h
  rename_i x hx hf
  split at h
  case h_2 => cases h
  rename_i s1 h1'
  have hrun : G P Γ w0 M (cutT F0 T) fn.ntmps F0 V0 cf K (s.hint hs) Q := by
    refine G.run hty hsum hmix hr (fun q hq => hp q (endS_ob h q (by rw [closeS_ob h1']; exact hq))) ?_
    rw [hx, hf]
    intro V a w hi
    obtain ⟨V', hi'⟩ := hi.closeS h1'
    exact H x s1 e' h hp h1 h2 h3 V' a w hi'
  intro V a w hi
  exact hrun V a w (hi.hints s.ob hs)

/-- A run, slices closed, and its end in other words. -/
noncomputable def toC (F0 N : Nat) (B : Tab) (cl : List Cl) (gs : List (Nat × SV)) (tb : List (Nat × SB)) (nx : Nat) (ws : List Nat) (df : List SV) (r : Option Cfg) : Option (Cf × List Fr × List Prop) := match r with
  | some r => match closeS F0 N B cl r.st with
    | some s => toA F0 B [] gs tb nx ws df (some ⟨r.cf, r.fr, s⟩)
    | none => none
  | none => none

theorem G.toC (hty : TyOK P Γ) (hsum : SumsOK P Γ) (hmix : P.follows .mixedOrders = true) (hb : Base Γ B F0 V0) {stops : List Nat} {lf n : Nat} {cf cf' : Cf} {K K' : List Fr} {s : St} (hs : List Bool) {cl : List Cl} {gs : List (Nat × SV)} {tb : List (Nat × SB)} {nx : Nat} {ws : List Nat} {df : List SV} {ps : List Prop} {Q : Exit → Act → World → Prop}
    (h : toC F0 N B cl gs tb nx ws df (mrun Γ B F0 N stops lf n cf K (s.hint hs)) = some (cf', K', ps)) (hp : ∀ q ∈ ps, q) (hG : G P Γ w0 M B N F0 V0 cf' K' (stOf gs tb nx ws df) Q) : G P Γ w0 M B N F0 V0 cf K s Q := by
  unfold Sx.toC at h
  split at h
  case h_2 => cases h
  rename_i r hr
  split at h
  case h_2 => cases h
  rename_i s1 h1
  have ob := closeS_ob h1
  -- the rest as a run of no step
  have h0 : Sx.toA F0 B [] gs tb nx ws df (mrun Γ B F0 N stops lf 0 r.cf r.fr (s1.hint s1.hs)) = some (cf', K', ps) := h
  have hrun : G P Γ w0 M B N F0 V0 cf K (s.hint hs) Q := by
    refine G.run hty hsum hmix hr (fun q hq => ?_) ?_
    · refine hp q ?_
      have hq : q ∈ s1.ob := by rw [ob]; exact hq
      unfold Sx.toA at h
      simp only at h
      unfold Sx.toN at h
      simp only [nilBs] at h
      unfold toS at h
      simp only at h
      split at h
      case h_2 => cases h
      split at h
      case h_2 => cases h
      cases h
      exact List.mem_append_left _ hq
    · intro V a w hi
      obtain ⟨V', hi'⟩ := hi.closeS h1
      exact G.toA hty hsum hmix hb s1.hs h0 hp hG V' a w hi'
  intro V a w hi
  exact hrun V a w (hi.hints s.ob hs)

theorem G.roundC (hty : TyOK P Γ) (hsum : SumsOK P Γ) (hmix : P.follows .mixedOrders = true) (hb : Base Γ B F0 V0) {stops : List Nat} {lf n : Nat} {cf : Cf} {K1 K : List Fr} {s : St} (hs : List Bool) {cl : List Cl} {gs : List (Nat × SV)} {tb : List (Nat × SB)} {nx : Nat} {ws : List Nat} {df : List SV} {ps : List Prop} {Q : Exit → Act → World → Prop} {S : Nat → St → Prop} {r : Nat}
    (h : Sx.toC F0 N B cl gs tb nx ws df (mrun Γ B F0 N stops lf n cf K1 (s.hint hs)) = some (.at .normal, [], ps)) (hp : ∀ q ∈ ps, q) (r' : Nat) (hlt : r' < r) (hS : S r' (stOf gs tb nx ws df)) :
    G P Γ w0 M B N F0 V0 cf K1 s (Exit.then (fun a w => ∃ r', r' < r ∧ ∃ s', S r' s' ∧ ∃ V, Inv P Γ w0 M B N F0 V0 s' V a w) (KQ P K Q)) :=
  G.toC hty hsum hmix hb hs h hp (G.again fun V _ _ hi => ⟨r', hlt, _, hS, V, hi⟩)
end

/-- What is written anew as it was. -/
theorem CallOK.wrSame {P : Program} {Γ : Env} {f : FuncId} {vs : List SV} {T : Tab} {lab F : Nat} {e : Eff} (h : CallOK P Γ f vs T lab F e) (l : Nat) (B : SB) (hT : T l = some B) (hl : l < lab) :
    CallOK P Γ f vs T lab F { e with wr := e.wr ++ [(l, B)] } := by
  intro w0 M V T2 w xs hsub hTab hg hf hF hx o a K Q hK
  refine h w0 M V T2 w xs hsub hTab hg hf hF hx o a K Q fun V' x w' h1 h2 h3 => hK V' x w' h1 h2 ?_
  have : upd T2 lab { e with wr := e.wr ++ [(l, B)] } = upd T2 lab e := by
    funext k
    simp only [upd, Eff.tab, look_append, List.append_assoc]
    cases hk : look k e.wr with
    | some b => rfl
    | none =>
      simp only
      by_cases e1 : l = k
      · subst e1
        rw [look_cons_eq]
        simp only
        rw [look_newL, if_neg (by omega)]
        exact (hsub l B hT).symm
      · rw [look_cons_ne e1]
        simp only [look]
  rw [this]
  exact h3
end Go.Proofs.YtdhombdiakjdhaaGreatDoor.Sx
end
section
open Go
namespace Go.Proofs.YtdhombdiakjdhaaGreatDoor.Sx

section
variable {w0 w : World} {M : Nat → Prop} {V : Val} {T : Tab} {lab : Nat}

theorem denL_ints (V : Val) (k : IntKind) : ∀ xs : List Int, denL V (xs.map (SV.int false k)) = some (xs.map (Value.int k))
  | [] => rfl
  | x :: xs => by simp [denL, den, denL_ints V k xs]

theorem TabOK.opened (h : TabOK w0 M V T w) (hf : V.fresh lab) (hlab : ∀ k, lab ≤ k → T k = none) {l : Nat} {k : IntKind} {xs : List Int} {el : TypeId} (hl : T l = some (.rowi k xs el)) (hpos : 0 < xs.length) {lb : Nat} {cs : List SV} {ty : TypeId} {i : Nat}
    (hb : T lb = some (.own cs ty)) (hi : cs[i]? = some (.buf l)) (hne : l ≠ lb) (v : SV) :
    ∃ V', V.ext lab V' ∧ TabOK w0 M V' (upd T lab { val := v, new := [.row 1 (xs.map (SV.int false k)) el], wr := [(l, .gone), (lb, .own (cs.set i (.slcR lab 0 xs.length 0)) ty)] }) w := by
  obtain ⟨us, hus, u, hσ, hrow⟩ := h.ok l _ hl
  obtain ⟨ys, hys, b2, hβ2, hh2⟩ := h.ok lb _ hb
  cases hus
  rcases hrow.2 with ⟨_, h0⟩ | ⟨b, cap, cur, rfl, _, hh, hle, hcap, hcs, htake⟩
  · omega
  have hlt : l < lab := Nat.lt_of_not_le fun q => by rw [hlab l q] at hl; cases hl
  have hltb : lb < lab := Nat.lt_of_not_le fun q => by rw [hlab lb q] at hb; cases hb
  have hext : V.ext lab ((V.put lab (b, 0)).putσ lab (.int .i64 (cap : Nat))) := by
    have h1 := Val.put_ext hf lab (Nat.le_refl _) (by omega) (b, 0)
    refine ⟨⟨fun k p hp => h1.1.1 k p hp, fun k p hp => ?_⟩, fun k hk => ⟨(h1.2 k hk).1, ?_⟩⟩
    · simp only [Val.putσ]
      by_cases e : k = lab
      · subst e; rw [(hf k (Nat.le_refl _) (by omega)).2] at hp; cases hp
      · rw [if_neg e]; exact hp
    · simp only [Val.putσ]
      rw [if_neg (by omega)]
      rfl
  refine ⟨_, hext, ?_⟩
  obtain ⟨V', hV'⟩ : ∃ V', V' = (V.put lab (b, 0)).putσ lab (.int .i64 (cap : Nat)) := ⟨_, rfl⟩
  rw [← hV'] at hext ⊢
  have e1 : V'.β lab = some (b, 0) := by rw [hV']; simp [Val.put, Val.putσ]
  have e2 : V'.σ lab = some (.int .i64 (cap : Nat)) := by rw [hV']; simp [Val.putσ]
  have hbl : SB.blk V l (.rowi k xs el) = some b := by simp [SB.blk, hσ, Value.ownBlock]
  have hbb : b ≠ b2 := by
    intro e
    exact h.dist l _ lb _ b hne hl hb rfl hbl (by simp [SB.blk, hβ2, e])
  have hset : denL V' (cs.set i (.slcR lab 0 xs.length 0)) = some ys := by
    have hx1 : denL V' cs = some ys := denL_mono hext.1 hys
    obtain ⟨x, hx2, hx3⟩ := denL_get hx1 i _ hi
    simp only [den, hext.1.2 _ _ hσ, Option.some.injEq] at hx3
    refine denL_set ?_ cs ys i hx1 hx2
    rw [← hx3]
    simp [den, e1, e2, capOf]
  refine h.step (N := fun q => if q = lab then some (.row 1 (xs.map (SV.int false k)) el) else if q = l then some .gone else if q = lb then some (.own (cs.set i (.slcR lab 0 xs.length 0)) ty) else none) hext.1 (fun q C hk => ?_) (fun q C hk => ?_) (fun q C p hk hp => ?_) (fun q C q' C' p hne' hk hk' ho hp => ?_) (Nat.le_refl _) (fun _ _ _ => rfl) rfl rfl rfl
  · simp only [upd, Eff.tab, newL, List.cons_append, List.nil_append] at hk
    by_cases k1 : l = q
    · subst k1
      rw [look_cons_eq] at hk
      left
      simp only [if_neg (show ¬ l = lab by omega), if_true]
      simpa using hk
    · rw [look_cons_ne k1] at hk
      by_cases k2 : lb = q
      · subst k2
        rw [look_cons_eq] at hk
        left
        simp only [if_neg (show ¬ lb = lab by omega), if_neg (fun q => hne (Eq.symm q)), if_true]
        simpa using hk
      · rw [look_cons_ne k2] at hk
        by_cases k3 : lab = q
        · subst k3; rw [look_cons_eq] at hk; left; simpa using hk
        · rw [look_cons_ne k3] at hk
          right
          simp only [look] at hk
          exact ⟨by rw [if_neg (fun q => k3 q.symm), if_neg (fun q => k1 q.symm), if_neg (fun q => k2 q.symm)], hk⟩
  · by_cases k1 : q = lab
    · rw [if_pos k1] at hk
      cases hk
      subst k1
      refine ⟨xs.map (Value.int k), denL_ints V' k xs, b, cap, cur, e1, e2, hh, hcap, hcs, ⟨xs.length, by simp, hle⟩, ?_⟩
      rw [List.length_map]
      rw [Nat.mul_one] at htake
      exact htake
    · rw [if_neg k1] at hk
      by_cases k2 : q = l
      · rw [if_pos k2] at hk; cases hk; exact ⟨[], rfl, trivial⟩
      · rw [if_neg k2] at hk
        by_cases k3 : q = lb
        · rw [if_pos k3] at hk
          cases hk
          subst k3
          exact ⟨ys, hset, b2, hext.1.1 _ _ hβ2, hh2⟩
        · rw [if_neg k3] at hk; cases hk
  · by_cases k1 : q = lab
    · rw [if_pos k1] at hk
      cases hk
      subst k1
      simp only [SB.blk, e1, Option.map_some, Option.some.injEq] at hp
      subst hp
      right; left
      exact ⟨l, _, hl, rfl, hbl, by simp [if_neg (show ¬ l = q by omega)]⟩
    · rw [if_neg k1] at hk
      by_cases k2 : q = l
      · rw [if_pos k2] at hk; cases hk; cases hp
      · rw [if_neg k2] at hk
        by_cases k3 : q = lb
        · rw [if_pos k3] at hk
          cases hk
          subst k3
          simp only [SB.blk, hext.1.1 _ _ hβ2, Option.map_some, Option.some.injEq] at hp
          subst hp
          right; left
          exact ⟨q, _, hb, rfl, by simp [SB.blk, hβ2], by simp [if_neg k1, if_neg k2]⟩
        · rw [if_neg k3] at hk; cases hk
  · have blk : ∀ q C p, (if q = lab then some (SB.row 1 (xs.map (SV.int false k)) el) else if q = l then some .gone else if q = lb then some (.own (cs.set i (.slcR lab 0 xs.length 0)) ty) else none) = some C → C.blk V' q = some p → (q = lab ∧ p = b) ∨ (q = lb ∧ p = b2) := by
      intro q C p hk hp
      by_cases k1 : q = lab
      · rw [if_pos k1] at hk
        cases hk
        subst k1
        simp only [SB.blk, e1, Option.map_some, Option.some.injEq] at hp
        exact .inl ⟨rfl, hp.symm⟩
      · rw [if_neg k1] at hk
        by_cases k2 : q = l
        · rw [if_pos k2] at hk; cases hk; cases hp
        · rw [if_neg k2] at hk
          by_cases k3 : q = lb
          · rw [if_pos k3] at hk
            cases hk
            subst k3
            simp only [SB.blk, hext.1.1 _ _ hβ2, Option.map_some, Option.some.injEq] at hp
            exact .inr ⟨rfl, hp.symm⟩
          · rw [if_neg k3] at hk; cases hk
    intro hp'
    rcases blk q C p hk hp with ⟨r1, r2⟩ | ⟨r1, r2⟩ <;> rcases blk q' C' p hk' hp' with ⟨r3, r4⟩ | ⟨r3, r4⟩
    · omega
    · exact hbb (r2.symm.trans r4)
    · exact hbb (r4.symm.trans r2)
    · omega
end

/-- The slice in a block's cell (a temporary points to the block) by its cells. -/
noncomputable def openC (F0 N : Nat) (B : Tab) (t i : Nat) (s : St) : Option St := match s.g.get t with
  | some (.ptr lb true 0) => match s.T B lb with
    | some (.own cs ty) => match cs[i]? with
      | some (.buf l) => match s.T B l with
        | some (.rowi k xs el) => match Nat.blt 0 xs.length && !Nat.beq l lb with
          | true => s.step F0 N none { val := .raw undef, new := [.row 1 (xs.map (SV.int false k)) el], wr := [(l, .gone), (lb, .own (cs.set i (.slcR s.nx 0 xs.length 0)) ty)] } s.nx (s.nx + 8)
          | false => none
        | _ => none
      | _ => none
    | _ => none
  | _ => none
noncomputable def opS (F0 N : Nat) (B : Tab) (t i : Nat) (s : St) : St := match openC F0 N B t i s with
  | some s' => s'
  | none => s

section
variable {P : Program} {Γ : Env} {w0 : World} {M : Nat → Prop} {B : Tab} {N F0 : Nat} {V0 : Val}
theorem Inv.openC {t i : Nat} {s s' : St} (h : openC F0 N B t i s = some s') {V : Val} {a : Act} {w : World} (hi : Inv P Γ w0 M B N F0 V0 s V a w) : ∃ V', Inv P Γ w0 M B N F0 V0 s' V' a w := by
  unfold Sx.openC at h
  split at h
  case h_2 => cases h
  rename_i lb _
  split at h
  case h_2 => cases h
  rename_i cs ty hb
  split at h
  case h_2 => cases h
  rename_i l hc
  split at h
  case h_2 => cases h
  rename_i k xs el hl
  split at h
  case h_2 => cases h
  rename_i hck
  simp only [Bool.and_eq_true, Bool.not_eq_true'] at hck
  obtain ⟨k1, k2⟩ := hck
  obtain ⟨V', hV, hT⟩ := TabOK.opened hi.tab hi.top.fresh hi.hi hl (by simpa [Nat.blt_eq] using k1) hb hc (fun e => by subst e; rw [Nat.beq_refl] at k2; cases k2) (.raw undef)
  exact ⟨V', hi.step (x := undef) h (Nat.le_refl _) (Nat.le_refl _) hV (fun h => by cases h) hT⟩
/-- A state, the slice by its cells. -/
theorem G.op (t i : Nat) {cf : Cf} {K : List Fr} {s : St} {Q : Exit → Act → World → Prop} (hG : G P Γ w0 M B N F0 V0 cf K (opS F0 N B t i s) Q) : G P Γ w0 M B N F0 V0 cf K s Q := by
  intro V a w hi
  unfold opS at hG
  split at hG
  · rename_i s' h
    obtain ⟨V', hi'⟩ := hi.openC h
    exact hG V' a w hi'
  · exact hG V a w hi
end
end Go.Proofs.YtdhombdiakjdhaaGreatDoor.Sx
end
section
open Go
namespace Go.Proofs.YtdhombdiakjdhaaGreatDoor.Sx

section
variable {w0 w : World} {M : Nat → Prop} {V : Val} {T : Tab}
theorem TabOK.swap {l0 : Nat} {B C : SB} (hT : TabOK w0 M V T w) (hl : T l0 = some B) (hok : okB V w l0 B → okB V w l0 C) (hblk : C.blk V l0 = B.blk V l0) (hown : C.owned = B.owned) : TabOK w0 M V (fun l => if l = l0 then some C else T l) w := by
  have src : ∀ l D, (if l = l0 then some C else T l) = some D → ∃ E, T l = some E ∧ D.blk V l = E.blk V l ∧ D.owned = E.owned := by
    intro l D h
    by_cases e : l = l0
    · subst e; rw [if_pos rfl] at h; cases h; exact ⟨B, hl, hblk, hown⟩
    · rw [if_neg e] at h; exact ⟨D, h, rfl, rfl⟩
  refine ⟨fun l D h => ?_, fun l D l' D' n hne h h' ho hb => ?_, fun l D n h ho hb => ?_, hT.frame⟩
  · by_cases e : l = l0
    · subst e; simp only [if_true, Option.some.injEq] at h; subst h; exact hok (hT.ok l B hl)
    · simp only [if_neg e] at h; exact hT.ok l D h
  · obtain ⟨E, h1, h2, h3⟩ := src l D h
    obtain ⟨E', h1', h2', _⟩ := src l' D' h'
    rw [h2']
    exact hT.dist l E l' E' n hne h1 h1' (h3 ▸ ho) (h2 ▸ hb)
  · obtain ⟨E, h1, h2, h3⟩ := src l D h
    exact hT.perm l E n h1 (h3 ▸ ho) (h2 ▸ hb)
end

/-- A block that is told by its cells: its type, if it is a whole one. -/
def SB.whole : SB → Option (Option TypeId)
  | .own _ ty | .ints _ _ ty | .vals _ ty => some (some ty)
  | .roc _ | .roi _ _ => some none
  | _ => none
theorem whole_ok {B C : SB} {ty : Option TypeId} (hB : B.whole = some ty) (hC : C.whole = some ty) (h : ∀ V, B.cells V = C.cells V) (V : Val) (w : World) (l : Nat) : (okB V w l B → okB V w l C) ∧ C.blk V l = B.blk V l ∧ C.owned = B.owned := by
  cases B <;> simp only [SB.whole, reduceCtorEq] at hB <;> cases C <;> simp only [SB.whole, reduceCtorEq] at hC <;> cases hB <;> cases hC <;>
    exact ⟨fun ⟨cs, h1, h2⟩ => ⟨cs, (h V).symm.trans h1, h2⟩, rfl, rfl⟩

/-- A call on a whole block, as one on a block that is told otherwise. -/
theorem CallOK.whole {P : Program} {Γ : Env} {f : FuncId} {vs : List SV} {lab F l0 : Nat} {B B' C C' : SB} {ty ty' : Option TypeId} {T0 wr : List (Nat × SB)} {v : SV} {n : List SB} {o o' : List Prop}
    (h : CallOK P Γ f vs (fun l => look l ((l0, B) :: T0)) lab F { obl := o, val := v, new := n, wr := (l0, B') :: wr })
    (hB : B.whole = some ty) (hC : C.whole = some ty) (hc : ∀ V, C.cells V = B.cells V) (hB' : B'.whole = some ty') (hC' : C'.whole = some ty') (hc' : ∀ V, B'.cells V = C'.cells V) :
    CallOK P Γ f vs (fun l => look l ((l0, C) :: T0)) lab F { obl := o', val := v, new := n, wr := (l0, C') :: wr } := by
  intro w0 M V T2 w ys hsub hT hg hf hF hx op a K Q hK
  have h0 := hsub l0 _ (look_cons_eq _ _ _)
  obtain ⟨k1, k2, k3⟩ := whole_ok hC hB hc V w l0
  have hT1 := hT.swap (C := B) h0 k1 k2 k3
  refine h w0 M V _ w ys (fun l B hl => ?_) hT1 hg hf hF hx op a K Q fun V' x w' h1 h2 h3 => hK V' x w' h1 h2 ?_
  · rename_i B0
    have hl : look l ((l0, B0) :: T0) = some B := hl
    by_cases e : l = l0
    · subst e; rw [look_cons_eq] at hl; simpa using hl
    · rw [look_cons_ne (fun q => e q.symm)] at hl
      simp only [if_neg e]
      exact hsub l B (by show look l _ = _; rw [look_cons_ne (fun q => e q.symm)]; exact hl)
  · obtain ⟨k1, k2, k3⟩ := whole_ok hB' hC' hc' V' w' l0
    have h4 := h3.swap (l0 := l0) (B := B') (C := C') (by simp only [upd, Eff.tab, List.cons_append, look_cons_eq]) k1 k2 k3
    have e : (fun l => if l = l0 then some C' else upd (fun l => if l = l0 then some B else T2 l) lab { obl := o, val := v, new := n, wr := (l0, B') :: wr } l) = upd T2 lab { obl := o', val := v, new := n, wr := (l0, C') :: wr } := by
      funext l
      simp only [upd, Eff.tab, List.cons_append]
      by_cases e : l = l0
      · subst e; simp only [if_true, look_cons_eq]
      · rw [look_cons_ne (fun q => e q.symm), look_cons_ne (fun q => e q.symm)]
        simp only [if_neg e]
    rw [← e]
    exact h4

theorem look_swap {α : Type} {a b : Nat} (h : a ≠ b) (x y : α) (r : List (Nat × α)) (l : Nat) : look l ((a, x) :: (b, y) :: r) = look l ((b, y) :: (a, x) :: r) := by
  by_cases e : a = l
  · subst e; rw [look_cons_eq, look_cons_ne (fun q => h q.symm), look_cons_eq]
  · rw [look_cons_ne e]
    by_cases e2 : b = l
    · subst e2; rw [look_cons_eq, look_cons_eq]
    · rw [look_cons_ne e2, look_cons_ne e2, look_cons_ne e]

/-- The same for a block that is only read. -/
theorem CallOK.wholeR {P : Program} {Γ : Env} {f : FuncId} {vs : List SV} {lab F l0 : Nat} {B C : SB} {ty : Option TypeId} {T0 : List (Nat × SB)} {e : Eff}
    (h : CallOK P Γ f vs (fun l => look l ((l0, B) :: T0)) lab F e)
    (hB : B.whole = some ty) (hC : C.whole = some ty) (hc : ∀ V, C.cells V = B.cells V) (hn : look l0 (e.tab lab) = none) :
    CallOK P Γ f vs (fun l => look l ((l0, C) :: T0)) lab F e := by
  intro w0 M V T2 w ys hsub hT hg hf hF hx op a K Q hK
  have h0 := hsub l0 _ (look_cons_eq _ _ _)
  obtain ⟨k1, k2, k3⟩ := whole_ok hC hB hc V w l0
  have hT1 := hT.swap (C := B) h0 k1 k2 k3
  refine h w0 M V _ w ys (fun l B hl => ?_) hT1 hg hf hF hx op a K Q fun V' x w' h1 h2 h3 => hK V' x w' h1 h2 ?_
  · rename_i B0
    have hl : look l ((l0, B0) :: T0) = some B := hl
    by_cases e : l = l0
    · subst e; rw [look_cons_eq] at hl; simpa using hl
    · rw [look_cons_ne (fun q => e q.symm)] at hl
      simp only [if_neg e]
      exact hsub l B (by show look l _ = _; rw [look_cons_ne (fun q => e q.symm)]; exact hl)
  · obtain ⟨k1, k2, k3⟩ := whole_ok hB hC (fun V => (hc V).symm) V' w' l0
    have h4 := h3.swap (l0 := l0) (B := B) (C := C) (by simp only [upd, hn, if_true]) k1 k2 k3
    have e : (fun l => if l = l0 then some C else upd (fun l => if l = l0 then some B else T2 l) lab e l) = upd T2 lab e := by
      funext l
      simp only [upd]
      by_cases e : l = l0
      · subst e; simp only [if_true, hn, h0]
      · simp only [if_neg e]
    rw [← e]
    exact h4

/-- The same for the first block that a call makes. -/
theorem CallOK.new1 {P : Program} {Γ : Env} {f : FuncId} {vs : List SV} {T : Tab} {lab F : Nat} {B C : SB} {ty : Option TypeId} {wr : List (Nat × SB)} {v : SV} {n : List SB} {o o' : List Prop}
    (h : CallOK P Γ f vs T lab F { obl := o, val := v, new := B :: n, wr := wr })
    (hB : B.whole = some ty) (hC : C.whole = some ty) (hc : ∀ V, B.cells V = C.cells V) (hn : look lab wr = none) :
    CallOK P Γ f vs T lab F { obl := o', val := v, new := C :: n, wr := wr } := by
  intro w0 M V T2 w ys hsub hT hg hf hF hx op a K Q hK
  refine h w0 M V T2 w ys hsub hT hg hf hF hx op a K Q fun V' x w' h1 h2 h3 => hK V' x w' h1 h2 ?_
  obtain ⟨k1, k2, k3⟩ := whole_ok hB hC hc V' w' lab
  have h4 := h3.swap (l0 := lab) (B := B) (C := C) (by simp only [upd, Eff.tab, newL]; rw [look_append, hn]; simp only [look_cons_eq]) k1 k2 k3
  have e : (fun l => if l = lab then some C else upd T2 lab { obl := o, val := v, new := B :: n, wr := wr } l) = upd T2 lab { obl := o', val := v, new := C :: n, wr := wr } := by
    funext l
    simp only [upd, Eff.tab, newL]
    rw [look_append, look_append]
    by_cases e : l = lab
    · subst e; simp only [if_true, hn, look_cons_eq]
    · rw [look_cons_ne (fun q => e q.symm), look_cons_ne (fun q => e q.symm)]
      simp only [if_neg e]
  rw [← e]
  exact h4
end Go.Proofs.YtdhombdiakjdhaaGreatDoor.Sx
end
section
open Go
namespace Go.Proofs.YtdhombdiakjdhaaGreatDoor.Sx

/-- The first n integers of a list. -/
def bytesI (n : Nat) (xs : List Int) : List Int := (List.range n).map fun j => xs.getD j 0
theorem bytesI_eq {n : Nat} {xs : List Int} (h : xs.length = n) : bytesI n xs = xs := by
  unfold bytesI
  apply List.ext_getElem
  · simp [h]
  · intro i h1 h2
    simp [List.getD_eq_getElem?_getD, h2]

namespace B
def word (l : List Int) (i : Nat) : Int := bOr .u32 (bOr .u32 (bOr .u32 (IntKind.u32.wrap (l.getD (4 * i) 0)) (shlI .u32 (IntKind.u32.wrap (l.getD (4 * i + 1) 0)) 8)) (shlI .u32 (IntKind.u32.wrap (l.getD (4 * i + 2) 0)) 16)) (shlI .u32 (IntKind.u32.wrap (l.getD (4 * i + 3) 0)) 24)
def rot (x k : Int) : Int := bOr .u32 (shlI .u32 x k) (shrI .u32 x (32 - k))
def qr (v : List Int) (a b c d : Nat) : List Int :=
  let v := v.set a (IntKind.u32.wrap (v.getD a 0 + v.getD b 0))
  let v := v.set d (rot (bXor .u32 (v.getD d 0) (v.getD a 0)) 16)
  let v := v.set c (IntKind.u32.wrap (v.getD c 0 + v.getD d 0))
  let v := v.set b (rot (bXor .u32 (v.getD b 0) (v.getD c 0)) 12)
  let v := v.set a (IntKind.u32.wrap (v.getD a 0 + v.getD b 0))
  let v := v.set d (rot (bXor .u32 (v.getD d 0) (v.getD a 0)) 8)
  let v := v.set c (IntKind.u32.wrap (v.getD c 0 + v.getD d 0))
  v.set b (rot (bXor .u32 (v.getD b 0) (v.getD c 0)) 7)
def dr (v : List Int) : List Int :=
  qr (qr (qr (qr (qr (qr (qr (qr v 0 4 8 12) 1 5 9 13) 2 6 10 14) 3 7 11 15) 0 5 10 15) 1 6 11 12) 2 7 8 13) 3 4 9 14
def rounds (n : Nat) (v : List Int) : List Int := match n with
  | 0 => v
  | n + 1 => rounds n (dr v)
def init (key nonce : List Int) (ctr : Int) : List Int := [1634760805, 857760878, 2036477234, 1797285236] ++ (List.range 8).map (word key) ++ [ctr] ++ (List.range 3).map (word nonce)
def out (v w : List Int) : List Int := (List.range 64).map fun j => IntKind.u8.wrap (shrI .u32 (IntKind.u32.wrap (v.getD (j / 4) 0 + w.getD (j / 4) 0)) (IntKind.i64.wrap (8 * (j % 4 : Nat))))
/-- 64 bytes of the stream. -/
def block (key nonce : List Int) (ctr : Int) : List Int := out (rounds 10 (init key nonce ctr)) (init key nonce ctr)
end B

/-- The stream's byte at a place. -/
def ksAt (key nonce : List Int) (c : Int) (i : Nat) : Int := (B.block key nonce (IntKind.u32.wrap (c + (i / 64 : Nat)))).getD (i % 64) 0
/-- The first n bytes from 'off' on, turned. -/
def xorTo (key nonce : List Int) (c : Int) (off n : Nat) (xs : List Int) : List Int :=
  (List.range xs.length).map fun m => if off ≤ m ∧ m < off + n then bXor .u8 (xs.getD m 0) (ksAt key nonce c (m - off)) else xs.getD m 0

theorem xorTo_length (key nonce : List Int) (c : Int) (off n : Nat) (xs : List Int) : (xorTo key nonce c off n xs).length = xs.length := by simp [xorTo]
theorem xorTo_get (key nonce : List Int) (c : Int) (off n : Nat) (xs : List Int) {m : Nat} (h : m < xs.length) : (xorTo key nonce c off n xs).getD m 0 = if off ≤ m ∧ m < off + n then bXor .u8 (xs.getD m 0) (ksAt key nonce c (m - off)) else xs.getD m 0 := by
  simp [xorTo, List.getD_eq_getElem?_getD, h]
theorem xorTo_zero (key nonce : List Int) (c : Int) (off : Nat) (xs : List Int) : xorTo key nonce c off 0 xs = xs := by
  apply List.ext_getElem
  · simp [xorTo]
  · intro i h1 h2
    have : ¬ (off ≤ i ∧ i < off + 0) := by omega
    simp only [xorTo, List.getElem_map, List.getElem_range, if_neg this]
    simp [List.getD_eq_getElem?_getD, h2]
theorem xorTo_succ (key nonce : List Int) (c : Int) (off n : Nat) (xs : List Int) (h : off + n < xs.length) :
    (xorTo key nonce c off n xs).set (off + n) (bXor .u8 ((xorTo key nonce c off n xs).getD (off + n) 0) (ksAt key nonce c n)) = xorTo key nonce c off (n + 1) xs := by
  apply List.ext_getElem
  · simp [xorTo]
  · intro i h1 h2
    have hl : i < xs.length := by simpa [xorTo] using h2
    rw [List.getElem_set]
    split
    · rename_i e
      subst e
      rw [xorTo_get _ _ _ _ _ _ h, if_neg (by omega)]
      simp only [xorTo, List.getElem_map, List.getElem_range]
      rw [if_pos (by omega), Nat.add_sub_cancel_left]
    · rename_i e
      simp only [xorTo, List.getElem_map, List.getElem_range]
      by_cases hc : off ≤ i ∧ i < off + n
      · rw [if_pos hc, if_pos (by omega)]
      · rw [if_neg hc, if_neg (by omega)]

end Go.Proofs.YtdhombdiakjdhaaGreatDoor.Sx
end
section
open Go
namespace Go.Proofs.YtdhombdiakjdhaaGreatDoor.Sx

namespace D
def iv : List Int := [1779033703, 3144134277, 1013904242, 2773480762, 1359893119, 2600822924, 528734635, 1541459225]
def mix (v : List Int) (a b c d : Nat) (x y : Int) : List Int :=
  let v := v.set a (IntKind.u32.wrap (v.getD a 0 + IntKind.u32.wrap (v.getD b 0 + x)))
  let v := v.set d (B.rot (bXor .u32 (v.getD d 0) (v.getD a 0)) 16)
  let v := v.set c (IntKind.u32.wrap (v.getD c 0 + v.getD d 0))
  let v := v.set b (B.rot (bXor .u32 (v.getD b 0) (v.getD c 0)) 20)
  let v := v.set a (IntKind.u32.wrap (v.getD a 0 + IntKind.u32.wrap (v.getD b 0 + y)))
  let v := v.set d (B.rot (bXor .u32 (v.getD d 0) (v.getD a 0)) 24)
  let v := v.set c (IntKind.u32.wrap (v.getD c 0 + v.getD d 0))
  v.set b (B.rot (bXor .u32 (v.getD b 0) (v.getD c 0)) 25)
def round (v : List Int) (m0 m1 m2 m3 m4 m5 m6 m7 m8 m9 m10 m11 m12 m13 m14 m15 : Int) : List Int :=
  mix (mix (mix (mix (mix (mix (mix (mix v 0 4 8 12 m0 m1) 1 5 9 13 m2 m3) 2 6 10 14 m4 m5) 3 7 11 15 m6 m7) 0 5 10 15 m8 m9) 1 6 11 12 m10 m11) 2 7 8 13 m12 m13) 3 4 9 14 m14 m15
def roundM (v m : List Int) (s : List Nat) : List Int :=
  let g (i : Nat) : Int := m.getD (s.getD i 0) 0
  round v (g 0) (g 1) (g 2) (g 3) (g 4) (g 5) (g 6) (g 7) (g 8) (g 9) (g 10) (g 11) (g 12) (g 13) (g 14) (g 15)
def orders : List (List Nat) := [[0, 1, 2, 3, 4, 5, 6, 7, 8, 9, 10, 11, 12, 13, 14, 15], [14, 10, 4, 8, 9, 15, 13, 6, 1, 12, 0, 2, 11, 7, 5, 3], [11, 8, 12, 0, 5, 2, 15, 13, 10, 14, 3, 6, 7, 1, 9, 4],
  [7, 9, 3, 1, 13, 12, 11, 14, 2, 6, 5, 10, 4, 0, 15, 8], [9, 0, 5, 7, 2, 4, 10, 15, 14, 1, 11, 12, 6, 8, 3, 13], [2, 12, 6, 10, 0, 11, 8, 3, 4, 13, 7, 5, 15, 14, 1, 9],
  [12, 5, 1, 15, 14, 13, 4, 10, 0, 7, 6, 3, 9, 2, 8, 11], [13, 11, 7, 14, 12, 1, 3, 9, 5, 0, 15, 4, 8, 6, 2, 10], [6, 15, 14, 9, 11, 3, 0, 8, 12, 2, 13, 7, 1, 4, 10, 5], [10, 2, 8, 4, 7, 6, 1, 5, 15, 11, 9, 14, 3, 12, 13, 0]]
def rounds (v m : List Int) : List Int := orders.foldl (fun v s => roundM v m s) v
def start (s : List Int) (cnt last : Int) : List Int :=
  bytesI 8 s ++ [1779033703, 3144134277, 1013904242, 2773480762, bXor .u32 1359893119 (IntKind.u32.wrap cnt), bXor .u32 2600822924 (IntKind.u32.wrap (shrI .u64 cnt 32)), bXor .u32 528734635 last, 1541459225]
def words (blk : List Int) : List Int := (List.range 16).map (B.word blk)
/-- A block is taken into a state. -/
def press (s blk : List Int) (cnt last : Int) : List Int :=
  let v := rounds (start s cnt last) (words blk)
  (List.range 8).map fun i => bXor .u32 (s.getD i 0) (bXor .u32 (v.getD i 0) (v.getD (8 + i) 0))
theorem press_length (s blk : List Int) (cnt last : Int) : (press s blk cnt last).length = 8 := by simp [press]

/-- What a digest begins with: 32 bytes, no key. -/
def h0 : List Int := [1795745351, 3144134277, 1013904242, 2773480762, 1359893119, 2600822924, 528734635, 1541459225]
/-- The state behind b blocks of a message. -/
def hs (ms : List Int) : Nat → List Int
  | 0 => h0
  | b + 1 => press (hs ms b) (bytesI 64 (ms.drop (64 * b))) ((64 * (b + 1) : Nat) : Int) 0
/-- How many blocks there are ahead of the last one. -/
def nb (n : Nat) : Nat := (n - 1) / 64
def fin (ms : List Int) : List Int := press (hs ms (nb ms.length)) (bytesI 64 (ms.drop (64 * nb ms.length))) (ms.length : Int) 4294967295
def bytes (s : List Int) : List Int := (List.range 32).map fun i => IntKind.u8.wrap (shrI .u32 (s.getD (i / 4) 0) (IntKind.i64.wrap (8 * (i % 4 : Nat))))
/-- THE DIGEST of 32 bytes, without a key. -/
def hash (ms : List Int) : List Int := bytes (fin ms)
theorem hash_length (ms : List Int) : (hash ms).length = 32 := by simp [hash, bytes]
theorem hs_length (ms : List Int) : ∀ b, (hs ms b).length = 8
  | 0 => rfl
  | _ + 1 => press_length _ _ _ _

/-- What a Hash holds. -/
structure HS where
  st : List Int
  cnt : Int
  blk : List Int
  held : Nat
def HS.put (S : HS) (c : Int) : HS := if S.held = 64 then ⟨press S.st S.blk (S.cnt + 64) 0, S.cnt + 64, S.blk.set 0 c, 1⟩ else ⟨S.st, S.cnt, S.blk.set S.held c, S.held + 1⟩
def HS.take (S : HS) (d : List Int) : HS := d.foldl HS.put S
def S0 : HS := ⟨h0, 0, List.replicate 64 0, 0⟩
/-- What a Hash holds behind a message. -/
def st (ms : List Int) : HS := S0.take ms
theorem st_append (ms d : List Int) : (st ms).take d = st (ms ++ d) := by simp [st, HS.take, List.foldl_append]

/-- A Hash as it may be. -/
structure HS.WF (S : HS) (n : Nat) : Prop where
  sl : S.st.length = 8
  bl : S.blk.length = 64
  hl : S.held ≤ 64
  cnt : S.cnt + S.held = n
  c0 : 0 ≤ S.cnt
theorem WF_put {S : HS} {n : Nat} (h : S.WF n) (c : Int) : (S.put c).WF (n + 1) := by
  obtain ⟨h1, h2, h3, h4, h5⟩ := h
  unfold HS.put
  split
  · exact ⟨press_length _ _ _ _, by simpa using h2, by simp, by simp only; omega, by simp only; omega⟩
  · exact ⟨h1, by simpa using h2, by simp only; omega, by simp only; omega, h5⟩
theorem WF_take : ∀ {d : List Int} {S : HS} {n : Nat}, S.WF n → (S.take d).WF (n + d.length)
  | [], _, _, h => h
  | c :: d, S, n, h => by
    have := WF_take (d := d) (WF_put h c)
    rw [Nat.add_assoc, Nat.add_comm 1] at this
    exact this
theorem WF_S0 : S0.WF 0 := ⟨rfl, rfl, by decide, rfl, by decide⟩
theorem WF_st (ms : List Int) : (st ms).WF ms.length := by have := WF_take (d := ms) WF_S0; rwa [Nat.zero_add] at this

/-- Several bytes that fit into the block. -/
theorem take_fit : ∀ {d : List Int} {S : HS}, S.blk.length = 64 → S.held + d.length ≤ 64 → S.take d = ⟨S.st, S.cnt, S.blk.take S.held ++ d ++ S.blk.drop (S.held + d.length), S.held + d.length⟩
  | [], S, hb, _ => by simp [HS.take]
  | c :: d, S, hb, h => by
    simp only [List.length_cons] at h
    have e : S.put c = ⟨S.st, S.cnt, S.blk.set S.held c, S.held + 1⟩ := by unfold HS.put; rw [if_neg (by omega)]
    show (S.put c).take d = _
    rw [e, take_fit (by simpa using hb) (by simp only; omega)]
    have hlt : S.held < S.blk.length := by omega
    have e1 : (S.blk.set S.held c).take (S.held + 1) = S.blk.take S.held ++ [c] := by
      rw [List.take_add_one, List.take_set_of_le (Nat.le_refl _)]
      simp [hlt]
    have e2 : (S.blk.set S.held c).drop (S.held + 1 + d.length) = S.blk.drop (S.held + (d.length + 1)) := by
      rw [List.drop_set_of_lt (by omega)]
      congr 1
      omega
    simp only [e1, e2, List.length_cons]
    congr 1
    · simp
    · omega
/-- The block is full: it is pressed. -/
theorem take_full {d : List Int} {S : HS} (h : S.held = 64) (hd : d ≠ []) : S.take d = HS.take ⟨press S.st S.blk (S.cnt + 64) 0, S.cnt + 64, S.blk, 0⟩ d := by
  cases d with
  | nil => exact (hd rfl).elim
  | cons c d =>
    show (S.put c).take d = HS.take (HS.put _ c) d
    unfold HS.put
    rw [if_pos h, if_neg (by simp)]

/-- What a Hash holds is what the message says. -/
structure Good (S : HS) (ms : List Int) : Prop where
  wf : S.WF ms.length
  cnt : S.cnt = ((64 * nb ms.length : Nat) : Int)
  st : S.st = hs ms (nb ms.length)
  blk : ∀ j, j < S.held → S.blk.getD j 0 = ms.getD (64 * nb ms.length + j) 0

theorem hs_append (ms d : List Int) : ∀ b, 64 * b ≤ ms.length → hs (ms ++ d) b = hs ms b
  | 0, _ => rfl
  | b + 1, h => by
    simp only [hs]
    rw [hs_append ms d b (by omega)]
    congr 1
    unfold bytesI
    apply List.map_congr_left
    intro j hj
    have hj : j < 64 := by simpa using hj
    simp only [List.getD_eq_getElem?_getD, List.getElem?_drop]
    rw [List.getElem?_append_left (by omega)]

theorem Good_S0 : Good S0 [] := ⟨WF_S0, rfl, rfl, fun j hj => by simp [S0] at hj⟩

theorem getD_append_lt (ms d : List Int) {i : Nat} (h : i < ms.length) : (ms ++ d).getD i 0 = ms.getD i 0 := by
  simp [List.getD_eq_getElem?_getD, List.getElem?_append_left h]
theorem getD_append_at (ms : List Int) (c : Int) : (ms ++ [c]).getD ms.length 0 = c := by
  simp [List.getD_eq_getElem?_getD]

theorem Good_put {S : HS} {ms : List Int} (h : Good S ms) (c : Int) : Good (S.put c) (ms ++ [c]) := by
  obtain ⟨hwf, hc, hst, hb⟩ := h
  have hw := hwf
  obtain ⟨w1, w2, w3, w4, w5⟩ := hw
  have hn : (ms ++ [c]).length = ms.length + 1 := by simp
  have hheld : S.held + 64 * nb ms.length = ms.length := by omega
  refine ⟨by rw [hn]; exact WF_put hwf c, ?_, ?_, ?_⟩
  all_goals rw [hn]
  all_goals unfold HS.put
  all_goals split
  · rename_i h64; simp only [hc]; unfold nb at *; omega
  · rename_i h64; simp only [hc]; unfold nb at *; omega
  · rename_i h64
    have e : nb (ms.length + 1) = nb ms.length + 1 := by unfold nb at *; omega
    rw [e]
    simp only [hs]
    rw [hs_append ms [c] _ (by omega), hst, hc]
    have e2 : S.blk = bytesI 64 ((ms ++ [c]).drop (64 * nb ms.length)) := by
      rw [← bytesI_eq w2]
      unfold bytesI
      apply List.map_congr_left
      intro j hj
      have hj : j < 64 := by simpa using hj
      rw [hb j (by omega)]
      simp only [List.getD_eq_getElem?_getD, List.getElem?_drop]
      rw [List.getElem?_append_left (by omega)]
    rw [← e2]
    congr 1
  · rename_i h64
    have e : nb (ms.length + 1) = nb ms.length := by unfold nb at *; omega
    rw [e, hs_append ms [c] _ (by omega), hst]
  · rename_i h64
    have e : nb (ms.length + 1) = nb ms.length + 1 := by unfold nb at *; omega
    intro j hj
    have hj : j = 0 := by simp only at hj; omega
    subst hj
    rw [e]
    have : 64 * (nb ms.length + 1) + 0 = ms.length := by omega
    rw [this, getD_append_at]
    simp [List.getD_eq_getElem?_getD, w2]
  · rename_i h64
    have e : nb (ms.length + 1) = nb ms.length := by unfold nb at *; omega
    intro j hj
    simp only at hj
    rw [e]
    by_cases hlt : j = S.held
    · subst hlt
      have : 64 * nb ms.length + S.held = ms.length := by omega
      rw [this, getD_append_at]
      simp [List.getD_eq_getElem?_getD, w2, show S.held < 64 by omega]
    · have hne : S.held ≠ j := fun e => hlt e.symm
      rw [getD_append_lt _ _ (by omega), ← hb j (by omega)]
      simp [List.getD_eq_getElem?_getD, List.getElem?_set_ne hne]

theorem Good_take : ∀ {d : List Int} {S : HS} {ms : List Int}, Good S ms → Good (S.take d) (ms ++ d)
  | [], _, _, h => by simpa [HS.take] using h
  | c :: d, S, ms, h => by
    have := Good_take (d := d) (Good_put h c)
    simpa [HS.take] using this
theorem Good_st (ms : List Int) : Good (st ms) ms := by have := Good_take (d := ms) Good_S0; rwa [List.nil_append] at this

/-- The end. -/
theorem st_fin (ms : List Int) : press (st ms).st ((st ms).blk.take (st ms).held ++ List.replicate (64 - (st ms).held) 0) ((st ms).cnt + (st ms).held) 4294967295 = fin ms := by
  obtain ⟨hwf, hc, hst, hb⟩ := Good_st ms
  generalize st ms = S at *
  obtain ⟨w1, w2, w3, w4, w5⟩ := hwf
  unfold fin
  rw [hst, w4]
  congr 1
  have hheld : S.held + 64 * nb ms.length = ms.length := by omega
  unfold bytesI
  apply List.ext_getElem
  · simp; omega
  · intro j h1 h2
    have hj : j < 64 := by simpa using h2
    simp only [List.getElem_map, List.getElem_range]
    by_cases hlt : j < S.held
    · rw [List.getElem_append_left (by simp; omega)]
      have := hb j hlt
      simp only [List.getD_eq_getElem?_getD, List.getElem?_drop] at this ⊢
      rw [← this]
      simp [show j < S.blk.length by omega]
    · rw [List.getElem_append_right (by simp; omega)]
      simp only [List.getElem_replicate, List.getD_eq_getElem?_getD, List.getElem?_drop]
      rw [List.getElem?_eq_none (by omega)]
      rfl
end D
end Go.Proofs.YtdhombdiakjdhaaGreatDoor.Sx
end
section
open Go
namespace Go.Proofs.YtdhombdiakjdhaaGreatDoor.Sx

/-- A word. -/
def W (x : Int) : Prop := 0 ≤ x ∧ x < 4294967296
theorem W.nat {x : Int} (h : W x) : ∃ a : Nat, x = a ∧ a < 4294967296 := ⟨x.toNat, by unfold W at h; omega, by unfold W at h; omega⟩

theorem xor_u32 (a b : Nat) (ha : a < 4294967296) (hb : b < 4294967296) : bXor .u32 a b = ((a ^^^ b : Nat) : Int) := by
  have h1 : a ^^^ b < 2 ^ 32 := Nat.xor_lt_two_pow (by simpa using ha) (by simpa using hb)
  unfold bXor
  rw [show IntKind.u32.bits = 32 from rfl, IntKind.wrap_u32]
  simp only [BitVec.toNat_xor, BitVec.toNat_ofInt]
  rw [show ((a : Int) % ((2 ^ 32 : Nat) : Int)).toNat = a from by omega, show ((b : Int) % ((2 ^ 32 : Nat) : Int)).toNat = b from by omega]
  omega
theorem xor_i64 (a b : Nat) (ha : a < 4294967296) (hb : b < 4294967296) : bXor .i64 a b = ((a ^^^ b : Nat) : Int) := by
  have h1 : a ^^^ b < 2 ^ 32 := Nat.xor_lt_two_pow (by simpa using ha) (by simpa using hb)
  unfold bXor
  rw [show IntKind.i64.bits = 64 from rfl, IntWalk.i64_in]
  · simp only [BitVec.toNat_xor, BitVec.toNat_ofInt]
    rw [show ((a : Int) % ((2 ^ 64 : Nat) : Int)).toNat = a from by omega, show ((b : Int) % ((2 ^ 64 : Nat) : Int)).toNat = b from by omega]
  · simp only [BitVec.toNat_xor, BitVec.toNat_ofInt]
    rw [show ((a : Int) % ((2 ^ 64 : Nat) : Int)).toNat = a from by omega, show ((b : Int) % ((2 ^ 64 : Nat) : Int)).toNat = b from by omega]
    omega
theorem or_u32 (a b : Nat) (ha : a < 4294967296) (hb : b < 4294967296) : bOr .u32 a b = ((a ||| b : Nat) : Int) := by
  have h1 : a ||| b < 2 ^ 32 := Nat.or_lt_two_pow (by simpa using ha) (by simpa using hb)
  unfold bOr
  rw [show IntKind.u32.bits = 32 from rfl, IntKind.wrap_u32]
  simp only [BitVec.toNat_or, BitVec.toNat_ofInt]
  rw [show ((a : Int) % ((2 ^ 32 : Nat) : Int)).toNat = a from by omega, show ((b : Int) % ((2 ^ 32 : Nat) : Int)).toNat = b from by omega]
  omega
theorem xor_W {x y : Int} (hx : W x) (hy : W y) : bXor .u32 x y = bXor .i64 x y ∧ W (bXor .u32 x y) := by
  obtain ⟨a, rfl, ha⟩ := hx.nat
  obtain ⟨b, rfl, hb⟩ := hy.nat
  have h1 : a ^^^ b < 2 ^ 32 := Nat.xor_lt_two_pow (by simpa using ha) (by simpa using hb)
  rw [xor_u32 a b ha hb, xor_i64 a b ha hb]
  exact ⟨rfl, by unfold W; omega⟩
theorem or_add (k a b : Nat) (hb : b < 2 ^ k) : (2 ^ k * a) ||| b = 2 ^ k * a + b := (Nat.two_pow_add_eq_or_of_lt hb a).symm

/-- Words. -/
def Ws (v : List Int) : Prop := ∀ x ∈ v, W x
theorem Ws.get {v : List Int} (h : Ws v) (i : Nat) : W (v.getD i 0) := by
  rw [List.getD_eq_getElem?_getD]
  cases hv : v[i]? with
  | none => exact ⟨by decide, by decide⟩
  | some x => exact h x (List.mem_of_getElem? hv)
theorem Ws.set {v : List Int} (h : Ws v) (i : Nat) {x : Int} (hx : W x) : Ws (v.set i x) := by
  intro y hy
  rcases List.mem_or_eq_of_mem_set hy with hy | hy
  · exact h y hy
  · subst hy; exact hx


namespace R8
def plus (x y : Int) : Int := (IntKind.i64.wrap (x + y)).tmod 4294967296
def add3 (x y z : Int) : Int := (IntKind.i64.wrap (IntKind.i64.wrap (x + y) + z)).tmod 4294967296
def turn (x u q : Int) : Int := IntKind.i64.wrap (IntKind.i64.wrap (x.tdiv u) + IntKind.i64.wrap (x.tmod u * q))
def mix (v : List Int) (a b c d : Nat) (x y : Int) : List Int :=
  let v := v.set a (add3 (v.getD a 0) (v.getD b 0) x)
  let v := v.set d (turn (bXor .i64 (v.getD d 0) (v.getD a 0)) 65536 65536)
  let v := v.set c (plus (v.getD c 0) (v.getD d 0))
  let v := v.set b (turn (bXor .i64 (v.getD b 0) (v.getD c 0)) 4096 1048576)
  let v := v.set a (add3 (v.getD a 0) (v.getD b 0) y)
  let v := v.set d (turn (bXor .i64 (v.getD d 0) (v.getD a 0)) 256 16777216)
  let v := v.set c (plus (v.getD c 0) (v.getD d 0))
  v.set b (turn (bXor .i64 (v.getD b 0) (v.getD c 0)) 128 33554432)
end R8

theorem plus8_W {x y : Int} (hx : W x) (hy : W y) : IntKind.u32.wrap (x + y) = R8.plus x y ∧ W (R8.plus x y) := by
  unfold W at hx hy
  unfold R8.plus W
  rw [IntWalk.i64_in _ (by omega), Int.tmod_eq_emod_of_nonneg (by omega), IntKind.wrap_u32]
  omega
theorem add3_W {x y z : Int} (hx : W x) (hy : W y) (hz : W z) : IntKind.u32.wrap (x + IntKind.u32.wrap (y + z)) = R8.add3 x y z ∧ W (R8.add3 x y z) := by
  unfold W at hx hy hz
  unfold R8.add3 W
  rw [IntWalk.i64_in (x + y) (by omega), IntWalk.i64_in _ (by omega), Int.tmod_eq_emod_of_nonneg (by omega), IntKind.wrap_u32, IntKind.wrap_u32]
  omega

theorem rotr_W {x : Int} (hx : W x) (k m : Nat) (hkm : k + m = 32) (u q : Int) (hu : u = ((2 ^ k : Nat) : Int)) (hq : q = ((2 ^ m : Nat) : Int)) : B.rot x m = R8.turn x u q ∧ W (R8.turn x u q) := by
  obtain ⟨a, rfl, ha⟩ := hx.nat
  have hpp : 2 ^ k * 2 ^ m = 4294967296 := by rw [← Nat.pow_add, hkm]
  have hp0 : 0 < 2 ^ k := Nat.pow_pos (by omega)
  have hp1 : 0 < 2 ^ m := Nat.pow_pos (by omega)
  have hlt : a / 2 ^ k < 2 ^ m := by
    rw [Nat.div_lt_iff_lt_mul hp0, Nat.mul_comm, hpp]; exact ha
  have hmod : a % 2 ^ k < 2 ^ k := Nat.mod_lt _ hp0
  have hsum : 2 ^ m * (a % 2 ^ k) + a / 2 ^ k < 4294967296 := by
    have : 2 ^ m * (a % 2 ^ k) + 2 ^ m ≤ 2 ^ m * 2 ^ k := by
      rw [← Nat.mul_succ]; exact Nat.mul_le_mul_left _ hmod
    rw [Nat.mul_comm (2 ^ m) (2 ^ k), hpp] at this
    omega
  have e2 : a * 2 ^ m % 4294967296 = 2 ^ m * (a % 2 ^ k) := by
    rw [← hpp, Nat.mul_comm a, Nat.mul_comm (2 ^ k), Nat.mul_mod_mul_left]
  have hL : B.rot (a : Int) m = ((2 ^ m * (a % 2 ^ k) + a / 2 ^ k : Nat) : Int) := by
    unfold B.rot shlI shrI
    rw [show IntKind.u32.bits = 32 from rfl, show ((m : Nat) : Int).toNat = m from rfl, show ((32 : Int) - (m : Int)).toNat = k from by omega, Nat.min_eq_left (by omega), Nat.min_eq_left (by omega), IntKind.wrap_u32]
    have h1 : (a : Int) * 2 ^ m % 4294967296 = ((a * 2 ^ m % 4294967296 : Nat) : Int) := by rw [Int.natCast_emod, Int.natCast_mul, Int.natCast_pow]; rfl
    have h2 : (a : Int).fdiv (2 ^ k) = ((a / 2 ^ k : Nat) : Int) := by
      rw [show ((2 : Int) ^ k) = ((2 ^ k : Nat) : Int) from by rw [Int.natCast_pow]; rfl, Int.fdiv_eq_ediv_of_nonneg _ (by omega)]; rfl
    rw [h1, h2, e2, or_u32 _ _ (Nat.lt_of_le_of_lt (Nat.le_add_right _ _) hsum) (Nat.lt_of_le_of_lt (Nat.le_add_left _ _) hsum), or_add m _ _ hlt]
  have hR : R8.turn (a : Int) u q = ((2 ^ m * (a % 2 ^ k) + a / 2 ^ k : Nat) : Int) := by
    unfold R8.turn
    subst hu hq
    have h3 : (a : Int).tdiv ((2 ^ k : Nat) : Int) = ((a / 2 ^ k : Nat) : Int) := by rw [Int.tdiv_eq_ediv_of_nonneg (by omega)]; rfl
    have h4 : (a : Int).tmod ((2 ^ k : Nat) : Int) = ((a % 2 ^ k : Nat) : Int) := by rw [Int.tmod_eq_emod_of_nonneg (by omega)]; rfl
    have h5 : ((a % 2 ^ k : Nat) : Int) * ((2 ^ m : Nat) : Int) = ((2 ^ m * (a % 2 ^ k) : Nat) : Int) := by rw [Nat.mul_comm, Int.natCast_mul]
    rw [h3, h4, h5]
    generalize a / 2 ^ k = z1 at *
    generalize 2 ^ m * (a % 2 ^ k) = z2 at *
    rw [IntWalk.i64_in (z1 : Int) (by omega), IntWalk.i64_in (z2 : Int) (by omega), IntWalk.i64_in _ (by omega)]
    omega
  exact ⟨hL.trans hR.symm, by rw [hR]; generalize 2 ^ m * (a % 2 ^ k) + a / 2 ^ k = z at hsum ⊢; unfold W; omega⟩

theorem mix_W {v : List Int} (h : Ws v) (a b c d : Nat) {x y : Int} (hx : W x) (hy : W y) : D.mix v a b c d x y = R8.mix v a b c d x y ∧ Ws (R8.mix v a b c d x y) := by
  unfold D.mix R8.mix
  have s1 := add3_W (h.get a) (h.get b) hx
  have g1 := h.set a s1.2
  rw [s1.1]
  generalize v.set a (R8.add3 (v.getD a 0) (v.getD b 0) x) = v1 at g1
  have x2 := xor_W (g1.get d) (g1.get a)
  have s2 := rotr_W x2.2 16 16 rfl 65536 65536 rfl rfl
  rw [x2.1] at s2
  simp only [x2.1]
  have g2 := g1.set d s2.2
  rw [show B.rot (bXor .i64 (v1.getD d 0) (v1.getD a 0)) 16 = _ from s2.1]
  generalize v1.set d (R8.turn (bXor .i64 (v1.getD d 0) (v1.getD a 0)) 65536 65536) = v2 at g2
  have s3 := plus8_W (g2.get c) (g2.get d)
  have g3 := g2.set c s3.2
  rw [s3.1]
  generalize v2.set c (R8.plus (v2.getD c 0) (v2.getD d 0)) = v3 at g3
  have x4 := xor_W (g3.get b) (g3.get c)
  have s4 := rotr_W x4.2 12 20 rfl 4096 1048576 rfl rfl
  rw [x4.1] at s4
  simp only [x4.1]
  have g4 := g3.set b s4.2
  rw [show B.rot (bXor .i64 (v3.getD b 0) (v3.getD c 0)) 20 = _ from s4.1]
  generalize v3.set b (R8.turn (bXor .i64 (v3.getD b 0) (v3.getD c 0)) 4096 1048576) = v4 at g4
  have s5 := add3_W (g4.get a) (g4.get b) hy
  have g5 := g4.set a s5.2
  rw [s5.1]
  generalize v4.set a (R8.add3 (v4.getD a 0) (v4.getD b 0) y) = v5 at g5
  have x6 := xor_W (g5.get d) (g5.get a)
  have s6 := rotr_W x6.2 8 24 rfl 256 16777216 rfl rfl
  rw [x6.1] at s6
  simp only [x6.1]
  have g6 := g5.set d s6.2
  rw [show B.rot (bXor .i64 (v5.getD d 0) (v5.getD a 0)) 24 = _ from s6.1]
  generalize v5.set d (R8.turn (bXor .i64 (v5.getD d 0) (v5.getD a 0)) 256 16777216) = v6 at g6
  have s7 := plus8_W (g6.get c) (g6.get d)
  have g7 := g6.set c s7.2
  rw [s7.1]
  generalize v6.set c (R8.plus (v6.getD c 0) (v6.getD d 0)) = v7 at g7
  have x8 := xor_W (g7.get b) (g7.get c)
  have s8 := rotr_W x8.2 7 25 rfl 128 33554432 rfl rfl
  rw [x8.1] at s8
  simp only [x8.1]
  have g8 := g7.set b s8.2
  rw [show B.rot (bXor .i64 (v7.getD b 0) (v7.getD c 0)) 25 = _ from s8.1]
  exact ⟨rfl, g8⟩
theorem mix_length (v : List Int) (a b c d : Nat) (x y : Int) : (D.mix v a b c d x y).length = v.length := by simp [D.mix]
theorem mix8_length (v : List Int) (a b c d : Nat) (x y : Int) : (R8.mix v a b c d x y).length = v.length := by simp [R8.mix]

end Go.Proofs.YtdhombdiakjdhaaGreatDoor.Sx
end
section
open Go
namespace Go.Proofs.YtdhombdiakjdhaaGreatDoor.Sx

/-- A byte. -/
def Bt (x : Int) : Prop := 0 ≤ x ∧ x < 256
def Bts (v : List Int) : Prop := ∀ x ∈ v, Bt x
theorem Bts.get {v : List Int} (h : Bts v) (i : Nat) : Bt (v.getD i 0) := by
  rw [List.getD_eq_getElem?_getD]
  cases hv : v[i]? with
  | none => exact ⟨by decide, by decide⟩
  | some x => exact h x (List.mem_of_getElem? hv)
theorem Bt.nat {x : Int} (h : Bt x) : ∃ a : Nat, x = a ∧ a < 256 := ⟨x.toNat, by unfold Bt at h; omega, by unfold Bt at h; omega⟩

theorem shl_u32 (a k : Nat) (hk : k ≤ 32) (h : a * 2 ^ k < 4294967296) : shlI .u32 (a : Int) (k : Int) = ((a * 2 ^ k : Nat) : Int) := by
  unfold shlI
  rw [show IntKind.u32.bits = 32 from rfl, Int.toNat_natCast, Nat.min_eq_left hk, IntKind.wrap_u32, show (a : Int) * 2 ^ k = ((a * 2 ^ k : Nat) : Int) from by rw [Int.natCast_mul, Int.natCast_pow]; rfl]
  omega


theorem word_val {l : List Int} (h : Bts l) (i : Nat) : B.word l i = l.getD (4 * i) 0 + 256 * l.getD (4 * i + 1) 0 + 65536 * l.getD (4 * i + 2) 0 + 16777216 * l.getD (4 * i + 3) 0 ∧ W (B.word l i) := by
  unfold B.word
  obtain ⟨a, ea, ha⟩ := (h.get (4 * i)).nat
  obtain ⟨b, eb, hb⟩ := (h.get (4 * i + 1)).nat
  obtain ⟨c, ec, hc⟩ := (h.get (4 * i + 2)).nat
  obtain ⟨d, ed, hd⟩ := (h.get (4 * i + 3)).nat
  rw [ea, eb, ec, ed]
  have wr : ∀ x : Nat, x < 256 → IntKind.u32.wrap (x : Int) = x := fun x hx => IntWalk.u32_in _ (by omega)
  rw [wr a ha, wr b hb, wr c hc, wr d hd]
  rw [show shlI .u32 (b : Int) 8 = _ from shl_u32 b 8 (by omega) (by omega), show shlI .u32 (c : Int) 16 = _ from shl_u32 c 16 (by omega) (by omega), show shlI .u32 (d : Int) 24 = _ from shl_u32 d 24 (by omega) (by omega)]
  rw [or_u32 a (b * 2 ^ 8) (by omega) (by omega), show a ||| b * 2 ^ 8 = 2 ^ 8 * b + a from by rw [Nat.or_comm, Nat.mul_comm]; exact or_add 8 b a (by omega)]
  rw [or_u32 _ (c * 2 ^ 16) (by omega) (by omega), show (2 ^ 8 * b + a) ||| c * 2 ^ 16 = 2 ^ 16 * c + (2 ^ 8 * b + a) from by rw [Nat.or_comm, Nat.mul_comm c]; exact or_add 16 c _ (by omega)]
  rw [or_u32 _ (d * 2 ^ 24) (by omega) (by omega), show (2 ^ 16 * c + (2 ^ 8 * b + a)) ||| d * 2 ^ 24 = 2 ^ 24 * d + (2 ^ 16 * c + (2 ^ 8 * b + a)) from by rw [Nat.or_comm, Nat.mul_comm d]; exact or_add 24 d _ (by omega)]
  unfold W
  omega

namespace R8
/-- The word at a place, of the first n bytes. -/
def wd (xs : List Int) (n i : Nat) : Int :=
  (if 4 * i < n then xs.getD (4 * i) 0 else 0) + (if 4 * i + 1 < n then 256 * xs.getD (4 * i + 1) 0 else 0) + (if 4 * i + 2 < n then 65536 * xs.getD (4 * i + 2) 0 else 0) + (if 4 * i + 3 < n then 16777216 * xs.getD (4 * i + 3) 0 else 0)
def words (xs : List Int) (n : Nat) : List Int := (List.range 16).map (wd xs n)
def p256 : Nat → Int
  | 0 => 1
  | 1 => 256
  | 2 => 65536
  | _ => 16777216
theorem words_zero (xs : List Int) : words xs 0 = List.replicate 16 0 := by
  have h : ∀ i, wd xs 0 i = 0 := fun i => by simp [wd]
  unfold words
  rw [List.map_congr_left (g := fun _ => 0) fun i _ => h i]
  rfl
theorem words_length (xs : List Int) (n : Nat) : (words xs n).length = 16 := by simp [words]
theorem words_succ {xs : List Int} (hb : Bts xs) {n : Nat} (hn : n < 64) : (words xs n).set (n / 4) (IntKind.i64.wrap ((words xs n).getD (n / 4) 0 + xs.getD n 0 * p256 (n % 4))) = words xs (n + 1) := by
  have hw : (words xs n).getD (n / 4) 0 = wd xs n (n / 4) := by simp [words, List.getD_eq_getElem?_getD, show n / 4 < 16 by omega]
  rw [hw]
  have key : IntKind.i64.wrap (wd xs n (n / 4) + xs.getD n 0 * p256 (n % 4)) = wd xs (n + 1) (n / 4) := by
    have b0 := hb.get (4 * (n / 4))
    have b1 := hb.get (4 * (n / 4) + 1)
    have b2 := hb.get (4 * (n / 4) + 2)
    have b3 := hb.get (4 * (n / 4) + 3)
    unfold Bt at b0 b1 b2 b3
    unfold wd
    rcases (by omega : n % 4 = 0 ∨ n % 4 = 1 ∨ n % 4 = 2 ∨ n % 4 = 3) with h | h | h | h <;> rw [h]
    · have e : xs.getD n 0 = xs.getD (4 * (n / 4)) 0 := by congr 1; omega
      rw [e, if_neg (by omega), if_neg (by omega), if_neg (by omega), if_neg (by omega), if_pos (by omega), if_neg (by omega), if_neg (by omega), if_neg (by omega), show p256 0 = 1 from rfl, IntWalk.i64_in _ (by omega)]
      omega
    · have e : xs.getD n 0 = xs.getD (4 * (n / 4) + 1) 0 := by congr 1; omega
      rw [e, if_pos (by omega), if_neg (by omega), if_neg (by omega), if_neg (by omega), if_pos (by omega), if_pos (by omega), if_neg (by omega), if_neg (by omega), show p256 1 = 256 from rfl, IntWalk.i64_in _ (by omega)]
      omega
    · have e : xs.getD n 0 = xs.getD (4 * (n / 4) + 2) 0 := by congr 1; omega
      rw [e, if_pos (by omega), if_pos (by omega), if_neg (by omega), if_neg (by omega), if_pos (by omega), if_pos (by omega), if_pos (by omega), if_neg (by omega), show p256 2 = 65536 from rfl, IntWalk.i64_in _ (by omega)]
      omega
    · have e : xs.getD n 0 = xs.getD (4 * (n / 4) + 3) 0 := by congr 1; omega
      rw [e, if_pos (by omega), if_pos (by omega), if_pos (by omega), if_neg (by omega), if_pos (by omega), if_pos (by omega), if_pos (by omega), if_pos (by omega), show p256 3 = 16777216 from rfl, IntWalk.i64_in _ (by omega)]
      omega
  rw [key]
  unfold words
  apply List.ext_getElem
  · simp
  · intro i h1 h2
    rw [List.getElem_set]
    split
    · rename_i e; subst e; simp
    · rename_i e
      simp only [List.getElem_map, List.getElem_range]
      unfold wd
      have q : ∀ m, m / 4 = i → (m < n + 1) = (m < n) := fun m hm => propext (by have : m ≠ n := fun q => e (by rw [← q, hm]); omega)
      simp only [q (4 * i) (by omega), q (4 * i + 1) (by omega), q (4 * i + 2) (by omega), q (4 * i + 3) (by omega)]

theorem bytesI_Bts {xs : List Int} (h : Bts xs) (n : Nat) : Bts (bytesI n xs) := by
  intro x hx
  simp only [bytesI, List.mem_map] at hx
  obtain ⟨j, _, rfl⟩ := hx
  exact h.get j
theorem bytesI_get {xs : List Int} {n j : Nat} (h : j < n) : (bytesI n xs).getD j 0 = xs.getD j 0 := by
  simp [bytesI, List.getD_eq_getElem?_getD, h]
theorem words_all {xs : List Int} (h : Bts xs) (hl : xs.length ≤ 64) : D.words (bytesI 64 xs) = words xs xs.length ∧ Ws (words xs xs.length) := by
  have e : D.words (bytesI 64 xs) = words xs xs.length := by
    unfold D.words words
    refine List.map_congr_left fun i hi => ?_
    have hi : i < 16 := by simpa using hi
    rw [(word_val (bytesI_Bts h 64) i).1, bytesI_get (by omega), bytesI_get (by omega), bytesI_get (by omega), bytesI_get (by omega)]
    have z : ∀ j, ¬ j < xs.length → xs.getD j 0 = 0 := fun j hj => by simp [List.getD_eq_getElem?_getD, List.getElem?_eq_none (Nat.le_of_not_lt hj)]
    unfold wd
    congr 1
    · congr 1
      · congr 1
        · split
          · rfl
          · rename_i hj; exact z _ hj
        · split
          · rfl
          · rename_i hj; rw [z _ hj]; rfl
      · split
        · rfl
        · rename_i hj; rw [z _ hj]; rfl
    · split
      · rfl
      · rename_i hj; rw [z _ hj]; rfl
  refine ⟨e, ?_⟩
  rw [← e]
  intro x hx
  simp only [D.words, List.mem_map] at hx
  obtain ⟨i, _, rfl⟩ := hx
  exact (word_val (bytesI_Bts h 64) i).2

def round (v : List Int) (m0 m1 m2 m3 m4 m5 m6 m7 m8 m9 m10 m11 m12 m13 m14 m15 : Int) : List Int :=
  mix (mix (mix (mix (mix (mix (mix (mix v 0 4 8 12 m0 m1) 1 5 9 13 m2 m3) 2 6 10 14 m4 m5) 3 7 11 15 m6 m7) 0 5 10 15 m8 m9) 1 6 11 12 m10 m11) 2 7 8 13 m12 m13) 3 4 9 14 m14 m15
def roundM (v m : List Int) (s : List Nat) : List Int :=
  let g (i : Nat) : Int := m.getD (s.getD i 0) 0
  round v (g 0) (g 1) (g 2) (g 3) (g 4) (g 5) (g 6) (g 7) (g 8) (g 9) (g 10) (g 11) (g 12) (g 13) (g 14) (g 15)
/-- The first n rounds. -/
def rounds (v m : List Int) (n : Nat) : List Int := (D.orders.take n).foldl (fun v s => roundM v m s) v
def start (h : List Int) (cnt last : Int) : List Int :=
  bytesI 8 h ++ [1779033703, 3144134277, 1013904242, 2773480762, bXor .i64 1359893119 (cnt.tmod 4294967296), bXor .i64 2600822924 ((IntKind.i64.wrap (cnt.tdiv 4294967296)).tmod 4294967296), bXor .i64 528734635 last, 1541459225]
def press (h blk : List Int) (cnt last : Int) : List Int :=
  let v := rounds (start h cnt last) (words blk blk.length) 10
  (List.range 8).map fun i => bXor .i64 (bXor .i64 (h.getD i 0) (v.getD i 0)) (v.getD (8 + i) 0)
end R8

theorem round_W {v : List Int} (h : Ws v) {m : List Int} (hm : Ws m) (s : List Nat) : D.roundM v m s = R8.roundM v m s ∧ Ws (R8.roundM v m s) := by
  unfold D.roundM R8.roundM D.round R8.round
  simp only
  have a1 := mix_W h 0 4 8 12 (hm.get (s.getD 0 0)) (hm.get (s.getD 1 0))
  rw [a1.1]
  have a2 := mix_W a1.2 1 5 9 13 (hm.get (s.getD 2 0)) (hm.get (s.getD 3 0))
  rw [a2.1]
  have a3 := mix_W a2.2 2 6 10 14 (hm.get (s.getD 4 0)) (hm.get (s.getD 5 0))
  rw [a3.1]
  have a4 := mix_W a3.2 3 7 11 15 (hm.get (s.getD 6 0)) (hm.get (s.getD 7 0))
  rw [a4.1]
  have a5 := mix_W a4.2 0 5 10 15 (hm.get (s.getD 8 0)) (hm.get (s.getD 9 0))
  rw [a5.1]
  have a6 := mix_W a5.2 1 6 11 12 (hm.get (s.getD 10 0)) (hm.get (s.getD 11 0))
  rw [a6.1]
  have a7 := mix_W a6.2 2 7 8 13 (hm.get (s.getD 12 0)) (hm.get (s.getD 13 0))
  rw [a7.1]
  have a8 := mix_W a7.2 3 4 9 14 (hm.get (s.getD 14 0)) (hm.get (s.getD 15 0))
  exact ⟨a8.1, a8.2⟩
theorem fold_W {f g : List Int → List Nat → List Int} (h : ∀ v s, Ws v → f v s = g v s ∧ Ws (g v s)) : ∀ (l : List (List Nat)) {v : List Int}, Ws v → l.foldl f v = l.foldl g v ∧ Ws (l.foldl g v)
  | [], _, hv => ⟨rfl, hv⟩
  | s :: l, v, hv => by
    have a := h v s hv
    have b := fold_W h l a.2
    rw [List.foldl_cons, List.foldl_cons, a.1]
    exact b
theorem rounds8_W {m : List Int} (hm : Ws m) (l : List (List Nat)) {v : List Int} (hv : Ws v) : l.foldl (fun v s => D.roundM v m s) v = l.foldl (fun v s => R8.roundM v m s) v ∧ Ws (l.foldl (fun v s => R8.roundM v m s) v) :=
  fold_W (fun v s h => round_W h hm s) l hv
theorem start_W {h : List Int} (hh : Ws h) {cnt last : Int} (hc : 0 ≤ cnt ∧ cnt < 1152921504606846976) (hl : W last) : D.start h cnt last = R8.start h cnt last ∧ Ws (R8.start h cnt last) := by
  have l1 : W (cnt.tmod 4294967296) := by rw [Int.tmod_eq_emod_of_nonneg hc.1]; unfold W; omega
  have e1 : IntKind.u32.wrap cnt = cnt.tmod 4294967296 := by rw [Int.tmod_eq_emod_of_nonneg hc.1, IntKind.wrap_u32]
  have e2 : IntKind.u32.wrap (shrI .u64 cnt 32) = (IntKind.i64.wrap (cnt.tdiv 4294967296)).tmod 4294967296 := by
    have h2 : shrI .u64 cnt 32 = cnt / 4294967296 := by
      unfold shrI
      rw [show IntKind.u64.bits = 64 from rfl, show ((32 : Int)).toNat = 32 from rfl, show min 32 64 = 32 from rfl, Int.fdiv_eq_ediv_of_nonneg _ (by decide)]
      rfl
    rw [h2, Int.tdiv_eq_ediv_of_nonneg hc.1, IntWalk.i64_in _ (by omega), Int.tmod_eq_emod_of_nonneg (by omega), IntKind.wrap_u32]
  have l2 : W ((IntKind.i64.wrap (cnt.tdiv 4294967296)).tmod 4294967296) := by
    rw [Int.tdiv_eq_ediv_of_nonneg hc.1, IntWalk.i64_in _ (by omega), Int.tmod_eq_emod_of_nonneg (by omega)]; unfold W; omega
  have x1 := xor_W (x := 1359893119) (by unfold W; omega) l1
  have x2 := xor_W (x := 2600822924) (by unfold W; omega) l2
  have x3 := xor_W (x := 528734635) (by unfold W; omega) hl
  unfold D.start R8.start
  rw [e1, e2, x1.1, x2.1, x3.1]
  rw [x1.1] at x1
  rw [x2.1] at x2
  rw [x3.1] at x3
  refine ⟨rfl, ?_⟩
  have y1 := x1.2
  have y2 := x2.2
  have y3 := x3.2
  clear x1 x2 x3 e1 e2 l1 l2
  generalize bXor .i64 1359893119 (cnt.tmod 4294967296) = z1 at y1 ⊢
  generalize bXor .i64 2600822924 ((IntKind.i64.wrap (cnt.tdiv 4294967296)).tmod 4294967296) = z2 at y2 ⊢
  generalize bXor .i64 528734635 last = z3 at y3 ⊢
  intro x hx
  rcases List.mem_append.1 hx with hx | hx
  · simp only [bytesI, List.mem_map] at hx
    obtain ⟨j, _, rfl⟩ := hx
    exact hh.get j
  · have w : ∀ k : Int, 0 ≤ k → k < 4294967296 → x = k → W x := fun k h1 h2 e => by subst e; exact ⟨h1, h2⟩
    simp only [List.mem_cons, List.not_mem_nil, or_false] at hx
    rcases hx with e | e | e | e | e | e | e | e
    · exact w _ (by decide) (by decide) e
    · exact w _ (by decide) (by decide) e
    · exact w _ (by decide) (by decide) e
    · exact w _ (by decide) (by decide) e
    · exact w _ y1.1 y1.2 e
    · exact w _ y2.1 y2.2 e
    · exact w _ y3.1 y3.2 e
    · exact w _ (by decide) (by decide) e
theorem press_W {h blk : List Int} (hh : Ws h) (hb : Bts blk) (hl : blk.length ≤ 64) {cnt last : Int} (hc : 0 ≤ cnt ∧ cnt < 1152921504606846976) (hla : W last) : D.press h (bytesI 64 blk) cnt last = R8.press h blk cnt last ∧ Ws (R8.press h blk cnt last) := by
  have a := start_W hh hc hla
  have m := R8.words_all hb hl
  have r := rounds8_W m.2 D.orders a.2
  unfold D.press R8.press D.rounds R8.rounds
  rw [a.1, m.1, r.1, show D.orders.take 10 = D.orders from rfl]
  simp only
  have hv := r.2
  generalize List.foldl (fun v s => R8.roundM v (R8.words blk blk.length) s) (R8.start h cnt last) D.orders = v at hv
  have key : ∀ i, bXor .u32 (h.getD i 0) (bXor .u32 (v.getD i 0) (v.getD (8 + i) 0)) = bXor .i64 (bXor .i64 (h.getD i 0) (v.getD i 0)) (v.getD (8 + i) 0) ∧ W (bXor .i64 (bXor .i64 (h.getD i 0) (v.getD i 0)) (v.getD (8 + i) 0)) := by
    intro i
    obtain ⟨a, ea, ha⟩ := (hh.get i).nat
    obtain ⟨b, eb, hb⟩ := (hv.get i).nat
    obtain ⟨c, ec, hc⟩ := (hv.get (8 + i)).nat
    have h1 : a ^^^ b < 2 ^ 32 := Nat.xor_lt_two_pow (by simpa using ha) (by simpa using hb)
    have h2 : b ^^^ c < 2 ^ 32 := Nat.xor_lt_two_pow (by simpa using hb) (by simpa using hc)
    have h3 : a ^^^ b ^^^ c < 2 ^ 32 := Nat.xor_lt_two_pow h1 (by simpa using hc)
    rw [ea, eb, ec, xor_u32 b c hb hc, xor_u32 a _ ha (by omega), xor_i64 a b ha hb, xor_i64 _ c (by omega) hc, Nat.xor_assoc]
    rw [Nat.xor_assoc] at h3
    exact ⟨rfl, by unfold W; omega⟩
  refine ⟨List.map_congr_left fun i _ => (key i).1, fun x hx => ?_⟩
  simp only [List.mem_map] at hx
  obtain ⟨i, _, rfl⟩ := hx
  exact (key i).2

end Go.Proofs.YtdhombdiakjdhaaGreatDoor.Sx
end
section
open Go
namespace Go.Proofs.YtdhombdiakjdhaaGreatDoor.Sx

theorem bytesI_take (xs : List Int) (n : Nat) : bytesI n (xs.take n) = bytesI n xs := by
  unfold bytesI
  refine List.map_congr_left fun j hj => ?_
  have hj : j < n := by simpa using hj
  simp [List.getD_eq_getElem?_getD, hj]
theorem Bts.drop {xs : List Int} (h : Bts xs) (n : Nat) : Bts (xs.drop n) := fun x hx => h x (List.mem_of_mem_drop hx)
theorem Bts.take {xs : List Int} (h : Bts xs) (n : Nat) : Bts (xs.take n) := fun x hx => h x (List.mem_of_mem_take hx)
theorem Bts.append {xs ys : List Int} (h : Bts xs) (k : Bts ys) : Bts (xs ++ ys) := fun x hx => (List.mem_append.1 hx).elim (h x) (k x)

theorem h0_W : Ws D.h0 := by
  intro x hx
  have w : ∀ k : Int, 0 ≤ k → k < 4294967296 → x = k → W x := fun k h1 h2 e => by subst e; exact ⟨h1, h2⟩
  simp only [D.h0, List.mem_cons, List.not_mem_nil, or_false] at hx
  rcases hx with e | e | e | e | e | e | e | e
  all_goals exact w _ (by decide) (by decide) e

/-- A block, as the document presses it. -/
theorem hs_step {ms : List Int} (hm : Bts ms) (b : Nat) (hb : 64 * b < 1152921504606846000) (h : Ws (D.hs ms b)) : R8.press (D.hs ms b) ((ms.drop (64 * b)).take 64) ((64 * (b + 1) : Nat) : Int) 0 = D.hs ms (b + 1) ∧ Ws (D.hs ms (b + 1)) := by
  have := press_W h ((hm.drop (64 * b)).take 64) (by simp; omega) (cnt := ((64 * (b + 1) : Nat) : Int)) (last := 0) (by omega) (by unfold W; omega)
  rw [bytesI_take] at this
  have e : D.hs ms (b + 1) = D.press (D.hs ms b) (bytesI 64 (ms.drop (64 * b))) ((64 * (b + 1) : Nat) : Int) 0 := rfl
  rw [e]
  exact ⟨this.1.symm, this.1 ▸ this.2⟩
theorem hs_W {ms : List Int} (hm : Bts ms) : ∀ b, 64 * b < 1152921504606846000 → Ws (D.hs ms b)
  | 0, _ => h0_W
  | b + 1, h => (hs_step hm b (by omega) (hs_W hm b (by omega))).2
theorem fin_step {ms : List Int} (hm : Bts ms) (hl : ms.length < 1152921504606846000) : R8.press (D.hs ms (D.nb ms.length)) (ms.drop (64 * D.nb ms.length)) (ms.length : Int) 4294967295 = D.fin ms ∧ Ws (D.fin ms) := by
  have := press_W (hs_W hm (D.nb ms.length) (by unfold D.nb; omega)) (hm.drop (64 * D.nb ms.length)) (by simp [D.nb]; omega) (cnt := (ms.length : Int)) (last := 4294967295) (by omega) (by unfold W; omega)
  unfold D.fin
  exact ⟨this.1.symm, this.1 ▸ this.2⟩

namespace R8
/-- A byte of a word, as the document has it. -/
def byteAt (x : Int) : Nat → Int
  | 0 => IntKind.u8.wrap (x.tmod 256)
  | n + 1 => byteAt (IntKind.i64.wrap (x.tdiv 256)) n
def bytes (s : List Int) : List Int := (List.range 32).map fun i => byteAt (s.getD (i / 4) 0) (i % 4)
end R8
theorem bytes_W {s : List Int} (hs : Ws s) : R8.bytes s = D.bytes s ∧ Bts (D.bytes s) := by
  have key : ∀ j : Nat, R8.byteAt (s.getD (j / 4) 0) (j % 4) = IntKind.u8.wrap (shrI .u32 (s.getD (j / 4) 0) (IntKind.i64.wrap (8 * (j % 4 : Nat)))) := by
    intro j
    have hx := hs.get (j / 4)
    unfold W at hx
    generalize s.getD (j / 4) 0 = x at hx
    have qi : ∀ y : Int, 0 ≤ y ∧ y < 4294967296 → IntKind.i64.wrap (y.tdiv 256) = y / 256 := fun y hy => by rw [Int.tdiv_eq_ediv_of_nonneg hy.1, IntWalk.i64_in _ (by omega)]
    have rm : ∀ y : Int, 0 ≤ y → IntKind.u8.wrap (y.tmod 256) = y % 256 := fun y hy => by rw [Int.tmod_eq_emod_of_nonneg hy, IntWalk.u8_in _ (by omega)]
    have sh : ∀ m : Nat, m ≤ 32 → shrI .u32 x (m : Int) = x / 2 ^ m := fun m hm => by
      unfold shrI
      rw [show IntKind.u32.bits = 32 from rfl, Int.toNat_natCast, Nat.min_eq_left hm, Int.fdiv_eq_ediv_of_nonneg _ (by exact Int.le_of_lt (Int.pow_pos (by omega)))]
    rcases (by omega : j % 4 = 0 ∨ j % 4 = 1 ∨ j % 4 = 2 ∨ j % 4 = 3) with h | h | h | h <;> rw [h]
    · rw [show IntKind.i64.wrap (8 * ((0 : Nat) : Int)) = ((0 : Nat) : Int) from by decide, sh 0 (by omega), IntKind.wrap_u8]
      simp only [R8.byteAt, rm x hx.1, Int.pow_zero, Int.ediv_one]
    · rw [show IntKind.i64.wrap (8 * ((1 : Nat) : Int)) = ((8 : Nat) : Int) from by decide, sh 8 (by omega), IntKind.wrap_u8]
      simp only [R8.byteAt, qi x hx]
      rw [rm _ (by omega)]
      rfl
    · rw [show IntKind.i64.wrap (8 * ((2 : Nat) : Int)) = ((16 : Nat) : Int) from by decide, sh 16 (by omega), IntKind.wrap_u8]
      simp only [R8.byteAt, qi x hx]
      rw [qi _ (by omega), rm _ (by omega), show ((2 : Int) ^ 16) = 65536 from rfl]
      omega
    · rw [show IntKind.i64.wrap (8 * ((3 : Nat) : Int)) = ((24 : Nat) : Int) from by decide, sh 24 (by omega), IntKind.wrap_u8]
      simp only [R8.byteAt, qi x hx]
      rw [qi (x / 256) (by omega), qi _ (by omega), rm _ (by omega), show ((2 : Int) ^ 24) = 16777216 from rfl]
      omega
  refine ⟨List.map_congr_left fun j _ => key j, fun x hx => ?_⟩
  simp only [D.bytes, List.mem_map] at hx
  obtain ⟨j, _, rfl⟩ := hx
  rw [IntKind.wrap_u8]
  unfold Bt
  omega
theorem hash_Bts (ms : List Int) : Bts (D.hash ms) := by
  intro x hx
  simp only [D.hash, D.bytes, List.mem_map] at hx
  obtain ⟨j, _, rfl⟩ := hx
  rw [IntKind.wrap_u8]
  unfold Bt
  omega

namespace D
def pad (key : List Int) (y : Int) : List Int := (List.range 64).map fun j => bXor .u8 (key.getD j 0) y
/-- A key, as it is taken in. -/
def key (k : List Int) : List Int := if k.length ≤ 64 then k else hash k
def hmac (k data : List Int) : List Int := hash (pad (key k) 92 ++ hash (pad (key k) 54 ++ data))
def kt (chain xs : List Int) : List Int := hmac chain xs
def ka (chain xs : List Int) : List Int := hmac (kt chain xs) [1]
def kb (chain xs : List Int) : List Int := hmac (kt chain xs) (ka chain xs ++ [2])
def kc (chain xs : List Int) : List Int := hmac (kt chain xs) (kb chain xs ++ [3])
theorem pad_length (k : List Int) (y : Int) : (pad k y).length = 64 := by simp [pad]
theorem hmac_length (k d : List Int) : (hmac k d).length = 32 := hash_length _
theorem key_length (k : List Int) : (key k).length ≤ 64 := by
  unfold key
  split
  · assumption
  · rw [hash_length]; omega
end D
theorem pad_Bts (k : List Int) (y : Int) : Bts (D.pad k y) := by
  intro x hx
  simp only [D.pad, List.mem_map] at hx
  obtain ⟨j, _, rfl⟩ := hx
  unfold bXor
  rw [IntKind.wrap_u8]
  unfold Bt
  omega
end Go.Proofs.YtdhombdiakjdhaaGreatDoor.Sx
end
section
open Go
set_option maxRecDepth 100000
namespace Go.Proofs.YtdhombdiakjdhaaGreatDoor.Sx
open Go.ChangeShapes Go.WideShapes

section
variable {H : Type} {enc : TypeId × Value → H} {P : Program} {w : World} {held : Bool}

theorem wf_u8 {n : Int} (h : (Lit.int .u8 n).wf = true) : Bt n := by
  have := bounds_u8 h
  exact ⟨this.1, by omega⟩

/-- A slice of bytes. -/
theorem ro_of_trod {fuel : Nat} {tb t5 : TypeId} {cs : List Value} {x : DataW H × List MemPlace} (ht : P.underlying tb = some (.slice t5)) (h5 : P.underlying t5 = some (.int .u8)) (hc : P.cellsOf t5 = 1)
    (h : DataW.trod enc P w 0 (fun _ => true) held fuel tb cs = some x) : ∃ v xs, cs = [v] ∧ RdOK w .u8 v xs ∧ Bts xs := by
  rcases open_ints ht h5 hc h with ⟨rfl, _⟩ | ⟨a, len, cap, zs, rfl, _, hle, _, hz, _, hcell, hwf⟩
  · exact ⟨_, [], rfl, .inl ⟨.nil, rfl⟩, fun _ h => by cases h⟩
  · simp only [if_true] at hz
    refine ⟨_, zs.take len, rfl, ?_, fun z hzm => wf_u8 (hwf z (List.mem_of_mem_take hzm))⟩
    by_cases h0 : cap = 0
    · subst h0
      have : len = 0 := by omega
      subst this
      exact .inl ⟨⟨_, rfl⟩, by simp⟩
    · have hc0 := hcell 0 (by omega)
      obtain ⟨b, o, s⟩ := a
      have hs : s = none := by
        have := World.cell?_spot hc0
        cases s with
        | none => rfl
        | some s => simp [Addr.add] at this
      subst hs
      have hlen : (zs.take len).length = len := by rw [List.length_take]; omega
      refine .inr ⟨b, o, cap, by rw [hlen], ?_, by omega, fun j u hj => ?_⟩
      · rw [add_addr] at hc0
        unfold World.cell? at hc0
        simp only at hc0
        cases hb : w.heap[b]? with
        | none => rw [hb] at hc0; simp at hc0
        | some y => exact (Array.getElem?_eq_some_iff.1 hb).1
      · rw [List.map_take, List.getElem?_take] at hj
        split at hj
        · rename_i hjl
          rw [List.getElem?_map] at hj
          obtain ⟨z, hzj, rfl⟩ := Option.map_eq_some_iff.1 hj
          have := hcell j (by omega)
          rw [add_addr] at this
          rw [this, List.getD_eq_getElem?_getD, hzj]
          rfl
        · cases hj

def intOf : Value → Int
  | .int _ z => z
  | _ => 0

/-- An array of bytes. -/
theorem arr_of_trod {fuel : Nat} {ta t5 : TypeId} {n : Nat} {cs : List Value} {x : DataW H × List MemPlace} (ht : P.underlying ta = some (.array n t5)) (h5 : P.underlying t5 = some (.int .u8)) (hc : P.cellsOf t5 = 1) (hca : P.cellsOf ta = n)
    (h : DataW.trod enc P w 0 (fun _ => true) held fuel ta cs = some x) : ∃ xs, xs.length = n ∧ cs = xs.map (Value.int .u8) ∧ Bts xs := by
  obtain ⟨xs, m, _, _, hlen, hn, hel⟩ := DataW.trod_array ht h
  rw [hca] at hlen
  have key : ∀ i, i < n → ∃ z, cs[i]? = some (.int .u8 z) ∧ Bt z := by
    intro i hi
    have h1 := hel i hi
    rw [hc, Nat.mul_one, List.getElem?_eq_getElem (by omega)] at h1
    obtain ⟨z, hz, _, hw⟩ := DataW.trod_int h5 h1
    refine ⟨z, ?_, wf_u8 hw⟩
    have := congrArg (·[0]?) hz
    simpa [List.getElem?_take, List.getElem?_drop] using this
  refine ⟨cs.map intOf, by simp [hlen], ?_, fun z hz => ?_⟩
  · rw [List.map_map]
    refine List.ext_getElem? fun i => ?_
    rw [List.getElem?_map]
    by_cases hi : i < n
    · obtain ⟨z, hz, _⟩ := key i hi
      rw [hz]; rfl
    · rw [List.getElem?_eq_none (by omega)]; rfl
  · obtain ⟨v, hv, rfl⟩ := List.mem_map.1 hz
    obtain ⟨i, hi⟩ := List.getElem?_of_mem hv
    have hin : i < n := by rw [← hlen]; exact (List.getElem?_eq_some_iff.1 hi).1
    obtain ⟨z, hz, hb⟩ := key i hin
    rw [hi] at hz
    cases hz
    exact hb
end

end Go.Proofs.YtdhombdiakjdhaaGreatDoor.Sx
end
section
open Go
set_option maxRecDepth 100000
namespace Go.Proofs.YtdhombdiakjdhaaGreatDoor.Sx

/-- The assembly's functions and their twins: none is reached. -/
def tws : List (Nat × Nat) := []

def exA (_ : Nat) : Option Sum := none

/-- The package-level variables that are read, by their labels. -/
def globs : List (Nat × Nat) := [(3, 3), (4, 4), (5, 5)]

theorem mix : Tryz.prog.follows .mixedOrders = true := by kernel_rfl
theorem noNum : Tryz.prog.funcs.toList.all (fun fn => !(fn.name == "runtime.NumGoroutine")) = true := by kernel_rfl
theorem names (f : Nat) (fn : Func) (h : Tryz.prog.funcs[f]? = some fn) : (fn.name == "runtime.NumGoroutine") = false := by
  have hm : fn ∈ Tryz.prog.funcs.toList := by
    have := Array.mem_of_getElem? h
    simpa using this
  have := List.all_eq_true.1 noNum fn hm
  simpa using this

theorem exA_ok (f : Nat) (S : Sum) (h : exA f = some S) (Γ : Env) : SumOK Tryz.prog Γ f S := by cases h

/-- WHAT HOLDS OF THE PROGRAM, with further summaries. -/
theorem progOK (ex : Nat → Option Sum) (hex : ∀ f S, ex f = some S → ∀ Γ : Env, Γ.glob = globs → SumOK Tryz.prog Γ f S) : ProgOK Tryz.prog globs [] ex tws :=
  ⟨mix, names, (fun t h => by simp at h), ⟨_, rfl⟩, (fun f g h => by simp [look, tws] at h), hex⟩

/-- The functions, each by its body; calls to a depth of n. -/
noncomputable def env (ex : Nat → Option Sum) (n : Nat) : Env := envN Tryz.prog globs [] ex tws 400 n
theorem env_ok (ex : Nat → Option Sum) (hex : ∀ f S, ex f = some S → ∀ Γ : Env, Γ.glob = globs → SumOK Tryz.prog Γ f S) (n : Nat) : SumsOK Tryz.prog (env ex n) := envN_ok (progOK ex hex) 400 n
theorem env_ty (ex : Nat → Option Sum) (n : Nat) : TyOK Tryz.prog (env ex n) := TyOK.prog envN_ty.1

end Go.Proofs.YtdhombdiakjdhaaGreatDoor.Sx
end
section
open Go
namespace Go.Proofs.YtdhombdiakjdhaaGreatDoor.Sx

/-- What is owed, as one. -/
def allP : List Prop → Prop
  | [] => True
  | p :: r => p ∧ allP r
theorem of_allP : ∀ {l : List Prop}, allP l → ∀ q ∈ l, q
  | [], _, q, hq => by cases hq
  | p :: r, h, q, hq => by
    rcases List.mem_cons.1 hq with rfl | hq
    · exact h.1
    · exact of_allP h.2 q hq

theorem denL_map_int (V : Val) (k : IntKind) : ∀ xs : List Int, denL V (xs.map (SV.int false k)) = some (xs.map (Value.int k))
  | [] => rfl
  | x :: xs => by simp [denL, den, denL_map_int V k xs]
theorem den_agg_ai (V : Val) (k : IntKind) (xs : List Int) : den V (.agg (xs.map (SV.int false k))) = den V (.ai k xs) := by
  simp only [den, denL_map_int, Option.map_some]
theorem den_intsV_ai (V : Val) {k : IntKind} {n : Nat} {xs : List Int} (h : xs.length = n) : den V (.agg (intsV k n xs)) = den V (.ai k xs) := by
  simp only [den, intsV_ok h, Option.map_some]

/-- The same arguments, the same answer, in other words. -/
theorem CallOK.words {P : Program} {Γ Γ' : Env} {f : FuncId} {vs vs' : List SV} {T T' : Tab} {lab F : Nat} {e e' : Eff} (h : CallOK P Γ f vs T lab F e) (hg : Γ'.glob = Γ.glob) (hv : ∀ V, denL V vs' = denL V vs) (hT : ∀ l B, T l = some B → T' l = some B)
    (he : ∀ V, den V e.val = den V e'.val) (hn : e'.new = e.new) (hw : e'.wr = e.wr) : CallOK P Γ' f vs' T' lab F e' := by
  intro w0 M V T2 w xs hsub hTab hgl hf hF hx o a K Q hK
  refine h w0 M V T2 w xs (fun l B hl => hsub l B (hT l B hl)) hTab (fun n l hl => hgl n l (by rw [hg]; exact hl)) hf hF ((hv V).symm.trans hx) o a K Q fun V' x w' h1 h2 h3 => hK V' x w' h1 ((he V').symm.trans h2) ?_
  have : upd T2 lab e' = upd T2 lab e := by funext l; simp only [upd, Eff.tab, hn, hw]
  rw [this]
  exact h3

/-- Where a call begins. -/
noncomputable def st0 (vs : List SV) (F : Nat) : St := { g := (initG vs 0 .lf).getD .lf, tb := .lf, nx := F, ws := [], ob := [], hs := [] }
def codeOf (f : Func) : Code := f.body.getD .skip

theorem wrap_u32_add (a : Int) (j : Nat) : IntKind.u32.wrap (IntKind.u32.wrap (a + j) + 1) = IntKind.u32.wrap (a + (j + 1 : Nat)) := by
  simp only [IntKind.wrap_u32]; omega
end Go.Proofs.YtdhombdiakjdhaaGreatDoor.Sx
end
section
open Go
set_option maxRecDepth 100000
namespace Go.Proofs.YtdhombdiakjdhaaGreatDoor.Sx

theorem exA_sums (n : Nat) : SumsOK Tryz.prog (env exA n) := env_ok exA (fun f S h Γ _ => exA_ok f S h Γ) n

def m16 (m : List Int) : List SV := [.int false .u32 (m.getD 0 0), .int false .u32 (m.getD 1 0), .int false .u32 (m.getD 2 0), .int false .u32 (m.getD 3 0), .int false .u32 (m.getD 4 0), .int false .u32 (m.getD 5 0), .int false .u32 (m.getD 6 0), .int false .u32 (m.getD 7 0),
  .int false .u32 (m.getD 8 0), .int false .u32 (m.getD 9 0), .int false .u32 (m.getD 10 0), .int false .u32 (m.getD 11 0), .int false .u32 (m.getD 12 0), .int false .u32 (m.getD 13 0), .int false .u32 (m.getD 14 0), .int false .u32 (m.getD 15 0)]
def id16 : List Nat := [0, 1, 2, 3, 4, 5, 6, 7, 8, 9, 10, 11, 12, 13, 14, 15]
theorem round_run (v m : List Int) (ty : Nat) : interp (env exA 2) Tryz.f188 true [] 400 (.ptr 60 true 0 :: m16 m) (fun l => look l [(60, .own (intsV .u32 16 v) ty)]) 100 100 =
    some { val := .tup [], wr := [(60, .own ((D.roundM (bytesI 16 v) m id16).map (.int false .u32)) ty)] } := by kernel_rfl
end Go.Proofs.YtdhombdiakjdhaaGreatDoor.Sx
end
